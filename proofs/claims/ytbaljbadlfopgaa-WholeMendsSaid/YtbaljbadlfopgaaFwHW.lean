import Derived.Test.YtbaljbadlfopgaaFwGW
set_option linter.all false
set_option linter.unusedVariables false
set_option linter.unusedSimpArgs false
namespace Go.Fw
open Go

/-! ## Monotone, feasible, determined -/
def pureK (i : I) (t : T) (K : Value → Prop) : Prop :=
  match i with
  | .mov x => K (ev t x)
  | .pick c a b => asB (ev t c) fun b' => K (if b' then ev t a else ev t b)
  | .bin op x y => ints (ev t x) (ev t y) fun k a k' b => binK op k a k' b fun v => K v
  | .eqb neg x y => bools (ev t x) (ev t y) fun a b => K (.bool ((a == b) != neg))
  | .eqp neg x y => ptrs (ev t x) (ev t y) fun a b => b = none ∧ K (.bool (a.isNone != neg))
  | .un op x => unK op (ev t x) fun v => K v
  | .cnv k x => asI (ev t x) fun _ n => K (.int k (k.wrap n))
  | .ext x i => asT (ev t x) fun l => getK l i fun v => K v
  | .nil x => nilK (ev t x) fun v => K v
  | .fad off x => asP (ev t x) fun a => K (.pointer (some (a.add off)))
  | .fld off x => asA (ev t x) fun l => getK l off fun v => K v
  | .fldn off sz x => asA (ev t x) fun l => K (.agg ((l.drop off).take sz).toArray)
  | .ixs sz x i => asS (ev t x) fun a n _ => asI (ev t i) fun _ i => (0 ≤ i ∧ i < (n : Int)) ∧ ∃ p, a = some p ∧ K (.pointer (some (p.add (i.toNat * sz))))
  | .ixa n sz x i => asP (ev t x) fun p => asI (ev t i) fun _ i => (0 ≤ i ∧ i < (n : Int)) ∧ K (.pointer (some (p.add (i.toNat * sz))))
  | .ixv n x i => asA (ev t x) fun l => asI (ev t i) fun _ i => (0 ≤ i ∧ i < (n : Int)) ∧ getK l i.toNat fun v => K v
  | .ixvn n sz x i => asA (ev t x) fun l => asI (ev t i) fun _ i => (0 ≤ i ∧ i < (n : Int)) ∧ K (.agg ((l.drop (i.toNat * sz)).take sz).toArray)
  | .ixt x i => ixtK (ev t x) (ev t i) fun v => K v
  | .slc sz x lo hi mx => asS (ev t x) fun a n c => sbnd n c (evo t lo) (evo t hi) (evo t mx) fun l h m => K (slV a sz l h m)
  | .sla n sz x lo hi mx => asP (ev t x) fun a => sbnd n n (evo t lo) (evo t hi) (evo t mx) fun l h m => K (slV (some a) sz l h m)
  | .len x => asS (ev t x) fun _ n _ => K (.int .i64 n)
  | .cap x => asS (ev t x) fun _ _ c => K (.int .i64 c)
  | .mnx mn x y => ints (ev t x) (ev t y) fun k a _ b => K (.int k (if mn then (if b < a then b else a) else (if b > a then b else a)))
  | .bld z parts => (match fillL z (evp t parts) with | some cs => K (.agg cs.toArray) | none => False)
  | .mkf f a b => K (.func (.func f) (evs t a).toArray (evs t b).toArray)
  | .mki ty x => K (.iface ty (ev t x))
  | .isn tag neg x => isnK tag (ev t x) fun b => K (.bool (b != neg))
  | .eqt neg x y => strs (ev t x) (ev t y) fun a b => K (.bool ((a.data.toList == b.data.toList) != neg))
  | _ => False
def readK (i : I) (t : T) (w : World) (K : Value → Prop) : Prop :=
  match i with
  | .ld x => ldK w (ev t x) K
  | .ldn sz x => ldnK w sz (ev t x) K
  | .s2t x => s2tK w (ev t x) K
  | _ => False
theorem stepI_pure (P : Program) {i : I} (h : i.kind = .pure) (t : T) (w : World) (K : Value → World → Prop) : stepI P i t w K = pureK i t (fun v => K v w) := by
  cases i <;> first | rfl | cases h
theorem stepI_read (P : Program) {i : I} (h : i.kind = .read) (t : T) (w : World) (K : Value → World → Prop) : stepI P i t w K = readK i t w (fun v => K v w) := by
  cases i <;> first | rfl | cases h

def Fn (F : (Value → Prop) → Prop) : Prop := ∃ o : Option Value, ∀ K, F K ↔ ∃ u, o = some u ∧ K u
theorem Fn.ret (v : Value) : Fn fun K => K v := ⟨some v, fun K => by simp⟩
theorem Fn.no : Fn fun _ => False := ⟨none, fun K => by simp⟩
theorem Fn.and {F : (Value → Prop) → Prop} (c : Prop) (h : Fn F) : Fn fun K => c ∧ F K := by
  obtain ⟨o, h⟩ := h
  by_cases hc : c
  · exact ⟨o, fun K => by simp [hc, h]⟩
  · exact ⟨none, fun K => by simp [hc]⟩
theorem Fn.asI {x : Value} {G : (Value → Prop) → IntKind → Int → Prop} (h : ∀ k n, Fn fun K => G K k n) : Fn fun K => asI x (G K) := by
  cases x <;> first | exact h _ _ | exact Fn.no
theorem Fn.asB {x : Value} {G : (Value → Prop) → Bool → Prop} (h : ∀ b, Fn fun K => G K b) : Fn fun K => asB x (G K) := by
  cases x <;> first | exact h _ | exact Fn.no
theorem Fn.asP {x : Value} {G : (Value → Prop) → Addr → Prop} (h : ∀ b, Fn fun K => G K b) : Fn fun K => asP x (G K) := by
  cases x with
  | pointer a => cases a with
    | none => exact Fn.no
    | some a => exact h a
  | _ => exact Fn.no
theorem Fn.asS {x : Value} {G : (Value → Prop) → Option Addr → Nat → Nat → Prop} (h : ∀ a b c, Fn fun K => G K a b c) : Fn fun K => asS x (G K) := by
  cases x <;> first | exact h _ _ _ | exact Fn.no
theorem Fn.asA {x : Value} {G : (Value → Prop) → List Value → Prop} (h : ∀ b, Fn fun K => G K b) : Fn fun K => asA x (G K) := by
  cases x <;> first | exact h _ | exact Fn.no
theorem Fn.asT {x : Value} {G : (Value → Prop) → List Value → Prop} (h : ∀ b, Fn fun K => G K b) : Fn fun K => asT x (G K) := by
  cases x <;> first | exact h _ | exact Fn.no
theorem Fn.ints {x y : Value} {G : (Value → Prop) → IntKind → Int → IntKind → Int → Prop} (h : ∀ a b c d, Fn fun K => G K a b c d) : Fn fun K => ints x y (G K) := by
  cases x <;> first | exact Fn.no | (cases y <;> first | exact h _ _ _ _ | exact Fn.no)
theorem Fn.bools {x y : Value} {G : (Value → Prop) → Bool → Bool → Prop} (h : ∀ a b, Fn fun K => G K a b) : Fn fun K => bools x y (G K) := by
  cases x <;> first | exact Fn.no | (cases y <;> first | exact h _ _ | exact Fn.no)
theorem Fn.ptrs {x y : Value} {G : (Value → Prop) → Option Addr → Option Addr → Prop} (h : ∀ a b, Fn fun K => G K a b) : Fn fun K => ptrs x y (G K) := by
  cases x <;> first | exact Fn.no | (cases y <;> first | exact h _ _ | exact Fn.no)
theorem Fn.getK {l : List Value} {i : Nat} : Fn fun K => getK l i K := by
  unfold Go.Fw.getK
  cases l[i]? with
  | none => exact Fn.no
  | some v => exact Fn.ret v
theorem Fn.bnd {x : Value} {y : Nat} {G : (Value → Prop) → Nat → Prop} (h : ∀ n, Fn fun K => G K n) : Fn fun K => bnd x y (G K) := Fn.asI fun _ _ => Fn.and _ (h _)
theorem Fn.sbnd {len cap : Nat} {lo hi mx : Option Value} {G : (Value → Prop) → Nat → Nat → Nat → Prop} (h : ∀ a b c, Fn fun K => G K a b c) : Fn fun K => sbnd len cap lo hi mx (G K) := by
  cases mx with
  | none =>
    cases hi with
    | none =>
      cases lo with
      | none => exact h _ _ _
      | some l => exact Fn.bnd (G := fun K l => G K l len cap) fun _ => h _ _ _
    | some hh =>
      cases lo with
      | none => exact Fn.bnd (G := fun K h => G K 0 h cap) fun _ => h _ _ _
      | some l => exact Fn.bnd (G := fun K h => Go.Fw.bnd l h fun l => G K l h cap) fun hh => Fn.bnd (G := fun K l => G K l hh cap) fun _ => h _ _ _
  | some m =>
    cases hi with
    | none => exact Fn.no
    | some hh =>
      cases lo with
      | none => exact Fn.bnd (G := fun K m => Go.Fw.bnd hh m fun h => G K 0 h m) fun m => Fn.bnd (G := fun K h => G K 0 h m) fun _ => h _ _ _
      | some l => exact Fn.bnd (G := fun K m => Go.Fw.bnd hh m fun h => Go.Fw.bnd l h fun l => G K l h m) fun m => Fn.bnd (G := fun K h => Go.Fw.bnd l h fun l => G K l h m) fun hh => Fn.bnd (G := fun K l => G K l hh m) fun _ => h _ _ _
theorem Fn.ex {α : Type} {o : Option α} {G : (Value → Prop) → α → Prop} (h : ∀ a, Fn fun K => G K a) : Fn fun K => ∃ p, o = some p ∧ G K p := by
  cases o with
  | none => exact ⟨none, fun K => by simp⟩
  | some a =>
    obtain ⟨o', h'⟩ := h a
    exact ⟨o', fun K => by rw [← h' K]; simp⟩
theorem Fn.bin {op : BinOp} {k k' : IntKind} {a b : Int} : Fn fun K => binK op k a k' b fun v => K v := by
  cases op <;> first | exact Fn.and _ (Fn.ret _) | exact Fn.and _ (Fn.and _ (Fn.ret _))
theorem Fn.un {op : UnOp} {x : Value} : Fn fun K => unK op x fun v => K v := by
  cases op <;> first | exact Fn.no | (cases x <;> first | exact Fn.no | exact Fn.ret _)
theorem Fn.nilK {x : Value} : Fn fun K => nilK x fun v => K v := by
  unfold Go.Fw.nilK
  split
  · exact Fn.ret _
  · exact Fn.ret _
  · exact Fn.no
theorem Fn.ixt {x i : Value} : Fn fun K => ixtK x i fun v => K v := by
  cases x <;> first | exact Fn.no | exact Fn.asI fun _ _ => Fn.and _ (Fn.ret _)
theorem Fn.isn {tag : NT} {x : Value} {G : (Value → Prop) → Bool → Prop} (h : ∀ b, Fn fun K => G K b) : Fn fun K => isnK tag x (G K) := by
  cases tag <;> cases x <;> first | exact h _ | exact Fn.no
theorem Fn.strs {x y : Value} {G : (Value → Prop) → ByteArray → ByteArray → Prop} (h : ∀ a b, Fn fun K => G K a b) : Fn fun K => strs x y (G K) := by
  cases x <;> first | exact Fn.no | (cases y <;> first | exact h _ _ | exact Fn.no)
theorem u8s_inj {a b : List UInt8} (h : u8s a = u8s b) : a = b := by
  refine List.ext_getElem (by have := congrArg List.length h; simpa [u8s] using this) fun i h1 h2 => ?_
  have e : (u8s a)[i]'(by simpa [u8s] using h1) = (u8s b)[i]'(by simpa [u8s] using h2) := by simp only [h]
  simp only [u8s, List.getElem_map, Value.int.injEq, true_and] at e
  exact UInt8.toNat_inj.1 (by omega)
theorem rdL_uniq {w : World} {p : Addr} {us vs : List Value} (h1 : World.rdL w p us) (h2 : World.rdL w p vs) (hl : us.length = vs.length) : us = vs := by
  apply List.ext_getElem?
  intro j
  by_cases hj : j < us.length
  · have e1 : us[j]? = some us[j] := List.getElem?_eq_getElem hj
    have e2 : vs[j]? = some vs[j] := List.getElem?_eq_getElem (by omega)
    have f1 := h1 j _ e1
    have f2 := h2 j _ e2
    rw [f1] at f2
    rw [e1, e2]; exact f2
  · rw [List.getElem?_eq_none (by omega), List.getElem?_eq_none (by omega)]
theorem reads_uniq {w : World} {a : Option Addr} {us vs : List Value} (h1 : reads w a us) (h2 : reads w a vs) (hl : us.length = vs.length) : us = vs := by
  rcases h1 with rfl | ⟨p, rfl, h1⟩
  · exact (List.eq_nil_of_length_eq_zero hl.symm).symm
  · rcases h2 with rfl | ⟨q, hq, h2⟩
    · exact List.eq_nil_of_length_eq_zero hl
    · cases hq; exact rdL_uniq h1 h2 hl
theorem fn_pure (i : I) (t : T) : Fn fun K => pureK i t K := by
  cases i <;> simp only [pureK] <;> try exact Fn.no
  case mov => exact Fn.ret _
  case pick => exact Fn.asB fun _ => Fn.ret _
  case bin => exact Fn.ints fun _ _ _ _ => Fn.bin
  case eqb => exact Fn.bools fun _ _ => Fn.ret _
  case eqp => exact Fn.ptrs fun _ _ => Fn.and _ (Fn.ret _)
  case un => exact Fn.un
  case cnv => exact Fn.asI fun _ _ => Fn.ret _
  case ext => exact Fn.asT fun _ => Fn.getK
  case nil => exact Fn.nilK
  case fad => exact Fn.asP fun _ => Fn.ret _
  case fld => exact Fn.asA fun _ => Fn.getK
  case fldn => exact Fn.asA fun _ => Fn.ret _
  case ixs => exact Fn.asS fun _ _ _ => Fn.asI fun _ _ => Fn.and _ (Fn.ex fun _ => Fn.ret _)
  case ixa => exact Fn.asP fun _ => Fn.asI fun _ _ => Fn.and _ (Fn.ret _)
  case ixv => exact Fn.asA fun _ => Fn.asI fun _ _ => Fn.and _ Fn.getK
  case ixvn => exact Fn.asA fun _ => Fn.asI fun _ _ => Fn.and _ (Fn.ret _)
  case ixt => exact Fn.ixt
  case slc => exact Fn.asS fun _ _ _ => Fn.sbnd fun _ _ _ => Fn.ret _
  case sla => exact Fn.asP fun _ => Fn.sbnd fun _ _ _ => Fn.ret _
  case len => exact Fn.asS fun _ _ _ => Fn.ret _
  case cap => exact Fn.asS fun _ _ _ => Fn.ret _
  case mnx => exact Fn.ints fun _ _ _ _ => Fn.ret _
  case bld z parts =>
    cases fillL z (evp t parts) with
    | none => exact Fn.no
    | some cs => exact Fn.ret _
  case mkf => exact Fn.ret _
  case mki => exact Fn.ret _
  case isn => exact Fn.isn fun _ => Fn.ret _
  case eqt => exact Fn.strs fun _ _ => Fn.ret _
theorem fn_read (i : I) (t : T) (w : World) : Fn fun K => readK i t w K := by
  cases i <;> simp only [readK] <;> try exact Fn.no
  case ld => exact Fn.asP fun _ => Fn.ex fun _ => Fn.ret _
  case ldn sz x =>
    refine Fn.asP fun p => ?_
    by_cases h : ∃ vs : List Value, vs.length = sz ∧ World.rdL w p vs
    · obtain ⟨vs, h1, h2⟩ := h
      refine ⟨some (.agg vs.toArray), fun K => ⟨fun ⟨us, h3, h4, h5⟩ => ?_, fun ⟨u, hu, hk⟩ => ⟨vs, h1, h2, by cases hu; exact hk⟩⟩⟩
      have : us = vs := by
        apply List.ext_getElem?
        intro j
        by_cases hj : j < sz
        · have e1 : us[j]? = some us[j] := List.getElem?_eq_getElem (by omega)
          have e2 : vs[j]? = some vs[j] := List.getElem?_eq_getElem (by omega)
          have f1 := h4 j _ e1
          have f2 := h2 j _ e2
          rw [f1] at f2
          rw [e1, e2]; exact f2
        · rw [List.getElem?_eq_none (by omega), List.getElem?_eq_none (by omega)]
      subst this
      exact ⟨_, rfl, h5⟩
    · exact ⟨none, fun K => by simp; intro p' us; exact fun h3 h4 => (h ⟨p', us, h3⟩).elim⟩
  case s2t x =>
    refine Fn.asS fun a n c => ?_
    by_cases h : ∃ bs : List UInt8, bs.length = n ∧ reads w a (u8s bs)
    · obtain ⟨bs, h1, h2⟩ := h
      refine ⟨some (.string ⟨bs.toArray⟩), fun K => ⟨fun ⟨us, h3, h4, h5⟩ => ?_, fun ⟨u, hu, hk⟩ => ⟨bs, h1, h2, by cases hu; exact hk⟩⟩⟩
      have : us = bs := u8s_inj (reads_uniq h4 h2 (by simp [u8s, h1, h3]))
      subst this
      exact ⟨_, rfl, h5⟩
    · exact ⟨none, fun K => ⟨fun ⟨us, h3, h4, _⟩ => (h ⟨us, h3, h4⟩).elim, fun ⟨_, h, _⟩ => by cases h⟩⟩

/-! mono -/
theorem asI_mono {x : Value} {F G : IntKind → Int → Prop} (h : ∀ k n, F k n → G k n) (hh : asI x F) : asI x G := by cases x <;> first | exact h _ _ hh | exact hh
theorem asS_mono {x : Value} {F G : Option Addr → Nat → Nat → Prop} (h : ∀ k n c, F k n c → G k n c) (hh : asS x F) : asS x G := by cases x <;> first | exact h _ _ _ hh | exact hh
theorem asP_mono {x : Value} {F G : Addr → Prop} (h : ∀ a, F a → G a) (hh : asP x F) : asP x G := by
  obtain ⟨a, rfl, hh⟩ := asP_e hh; exact h a hh
theorem asM_mono {x : Value} {F G : Nat → Prop} (h : ∀ a, F a → G a) (hh : asM x F) : asM x G := by
  obtain ⟨r, rfl, hh⟩ := asM_e hh; exact h r hh
theorem asA_mono {x : Value} {F G : List Value → Prop} (h : ∀ a, F a → G a) (hh : asA x F) : asA x G := by cases x <;> first | exact h _ hh | exact hh

theorem appC_mono {w : World} {e b : Nat} {z : List Value} {a : Option Addr} {len cap n : Nat} {news : List Value} {K K' : Value → World → Prop} (hk : ∀ v w', K v w' → K' v w') (h : appC w e b z a len cap n news K) : appC w e b z a len cap n news K' := by
  obtain ⟨h4, h5, h6⟩ := h
  refine ⟨h4, h5, ?_⟩
  by_cases hc : len + n ≤ cap
  · rw [if_pos hc] at h6 ⊢
    rcases h6 with ⟨h7, h8, h9⟩ | ⟨g, o, cs, h7, h8, h9, h10⟩
    · exact Or.inl ⟨h7, h8, hk _ _ h9⟩
    · exact Or.inr ⟨g, o, cs, h7, h8, h9, hk _ _ h10⟩
  · rw [if_neg hc] at h6 ⊢
    obtain ⟨olds, h7, h8, h9⟩ := h6
    exact ⟨olds, h7, h8, fun nc hnc => hk _ _ (h9 nc hnc)⟩
theorem appC_feas {w : World} {e b : Nat} {z : List Value} {a : Option Addr} {len cap n : Nat} {news : List Value} {K : Value → World → Prop} (h : appC w e b z a len cap n news K) : ∃ v w', K v w' := by
  obtain ⟨h4, h5, h6⟩ := h
  split at h6
  · rcases h6 with ⟨h7, h8, h9⟩ | ⟨g, o, cs, h7, h8, h9, h10⟩
    · exact ⟨_, _, h9⟩
    · exact ⟨_, _, h10⟩
  · obtain ⟨olds, h7, h8, h9⟩ := h6
    exact ⟨_, _, h9 _ (Nat.le_refl _)⟩
theorem stepI_mono {P : Program} {i : I} {t : T} {w : World} {K K' : Value → World → Prop} (hk : ∀ v w', K v w' → K' v w') (h : stepI P i t w K) : stepI P i t w K' := by
  cases hi : i.kind with
  | pure =>
    rw [stepI_pure P hi] at h ⊢
    obtain ⟨o, ho0⟩ := fn_pure i t
    have ho : ∀ K, pureK i t K ↔ ∃ u, o = some u ∧ K u := ho0
    rw [ho] at h ⊢
    obtain ⟨u, h1, h2⟩ := h
    exact ⟨u, h1, hk _ _ h2⟩
  | read =>
    rw [stepI_read P hi] at h ⊢
    obtain ⟨o, ho0⟩ := fn_read i t w
    have ho : ∀ K, readK i t w K ↔ ∃ u, o = some u ∧ K u := ho0
    rw [ho] at h ⊢
    obtain ⟨u, h1, h2⟩ := h
    exact ⟨u, h1, hk _ _ h2⟩
  | eff =>
    cases i <;> first | (simp only [I.kind, reduceCtorEq] at hi; done) | skip
    case st x v => exact asP_mono (fun a ⟨h1, h2, h3, h4⟩ => ⟨h1, h2, h3, hk _ _ h4⟩) h
    case stn n x v => exact asP_mono (fun a => asA_mono fun l ⟨h1, h2, cs, h3, h4, h5, h6⟩ => ⟨h1, h2, cs, h3, h4, h5, hk _ _ h6⟩) h
    case alloc => exact hk _ _ h
    case box => exact hk _ _ h
    case bsl e n z ps =>
      simp only [stepI] at h ⊢
      cases hf : fillL (repL z n) (evp t ps) with
      | none => rw [hf] at h; exact h.elim
      | some cs => rw [hf] at h; exact hk _ _ h
    case mks => exact asI_mono (fun _ _ => asI_mono fun _ _ ⟨h1, h2⟩ => ⟨h1, hk _ _ h2⟩) h
    case app e b z x y => exact asS_mono (fun a len cap => asS_mono fun b n _ ⟨news, h1, h2, h3, h4⟩ => ⟨news, h1, h2, h3, appC_mono hk h4⟩) h
    case apz e b z x y => exact asS_mono (fun a len cap => asI_mono fun _ n ⟨h1, h2, h4⟩ => ⟨h1, h2, appC_mono hk h4⟩) h
    case cpy sz x y =>
      refine asS_mono (fun a len _ => asS_mono fun b n _ => ?_) h
      rintro ⟨news, h1, h2, h3, h4⟩
      refine ⟨news, h1, h2, h3, ?_⟩
      rcases h4 with ⟨h7, h9⟩ | ⟨g, o, cs, h7, h8, h9, h10⟩
      · exact Or.inl ⟨h7, hk _ _ h9⟩
      · exact Or.inr ⟨g, o, cs, h7, h8, h9, hk _ _ h10⟩
    case call f args =>
      simp only [stepI, callK] at h ⊢
      split at h
      · exact CallV.mono h hk
      · exact h.elim
    case mkm => exact hk _ _ h
    case mlk => exact asM_mono (fun _ => asI_mono fun _ _ ⟨h1, ms, c, h2, h3, h4⟩ => ⟨h1, ms, c, h2, h3, hk _ _ h4⟩) h
    case mup => exact asM_mono (fun _ => asI_mono fun _ _ ⟨h1, ms, c, h2, h3, h4⟩ => ⟨h1, ms, c, h2, h3, hk _ _ h4⟩) h
    case clr z x =>
      refine asS_mono (fun a n _ => ?_) h
      rintro (⟨h7, h9⟩ | ⟨h6, g, o, cs, h7, h8, h9, h10, h11⟩)
      · exact Or.inl ⟨h7, hk _ _ h9⟩
      · exact Or.inr ⟨h6, g, o, cs, h7, h8, h9, h10, hk _ _ h11⟩
    case bad => exact h

theorem callV_feas {P : Program} {f : FuncId} {args : List Value} {w : World} {K : Value → World → Prop} (h : CallV P f args w K) : ∃ v w', K v w' := by
  obtain ⟨e, w', fr, ⟨v, _, hk⟩, _⟩ := h.2 []
  exact ⟨v, w', hk⟩
theorem stepI_feas {P : Program} {i : I} {t : T} {w : World} {K : Value → World → Prop} (h : stepI P i t w K) : ∃ v w', K v w' := by
  cases hi : i.kind with
  | pure =>
    rw [stepI_pure P hi] at h
    obtain ⟨o, ho0⟩ := fn_pure i t
    have ho : ∀ K, pureK i t K ↔ ∃ u, o = some u ∧ K u := ho0
    rw [ho] at h
    obtain ⟨u, h1, h2⟩ := h
    exact ⟨u, w, h2⟩
  | read =>
    rw [stepI_read P hi] at h
    obtain ⟨o, ho0⟩ := fn_read i t w
    have ho : ∀ K, readK i t w K ↔ ∃ u, o = some u ∧ K u := ho0
    rw [ho] at h
    obtain ⟨u, h1, h2⟩ := h
    exact ⟨u, w, h2⟩
  | eff =>
    cases i <;> first | (simp only [I.kind, reduceCtorEq] at hi; done) | skip
    case st x v => obtain ⟨a, _, h1, h2, h3, h4⟩ := asP_e h; exact ⟨_, _, h4⟩
    case stn n x v => obtain ⟨a, _, h⟩ := asP_e h; obtain ⟨l, _, h1, h2, cs, h3, h4, h5, h6⟩ := asA_e h; exact ⟨_, _, h6⟩
    case alloc => exact ⟨_, _, h⟩
    case box => exact ⟨_, _, h⟩
    case bsl e n z ps =>
      simp only [stepI] at h
      cases hf : fillL (repL z n) (evp t ps) with
      | none => rw [hf] at h; exact h.elim
      | some cs => rw [hf] at h; exact ⟨_, _, h⟩
    case mks => obtain ⟨_, _, _, h⟩ := asI_e h; obtain ⟨_, _, _, _, h⟩ := asI_e h; exact ⟨_, _, h⟩
    case app e b z x y =>
      obtain ⟨a, len, cap, _, h⟩ := asS_e h
      obtain ⟨b, n, _, _, news, h1, h2, h3, h4⟩ := asS_e h
      exact appC_feas h4
    case apz e b z x y =>
      obtain ⟨a, len, cap, _, h⟩ := asS_e h
      obtain ⟨_, n, _, h1, h2, h4⟩ := asI_e h
      exact appC_feas h4
    case cpy sz x y =>
      obtain ⟨a, len, _, _, h⟩ := asS_e h
      obtain ⟨b, n, _, _, news, h1, h2, h3, h4⟩ := asS_e h
      rcases h4 with ⟨h7, h9⟩ | ⟨g, o, cs, h7, h8, h9, h10⟩
      · exact ⟨_, _, h9⟩
      · exact ⟨_, _, h10⟩
    case call f args =>
      simp only [stepI, callK] at h
      split at h
      · exact callV_feas h
      · exact h.elim
    case mkm => exact ⟨_, _, h⟩
    case mlk => obtain ⟨_, _, h⟩ := asM_e h; obtain ⟨_, _, _, _, ms, c, _, _, h⟩ := asI_e h; exact ⟨_, _, h⟩
    case mup => obtain ⟨_, _, h⟩ := asM_e h; obtain ⟨_, _, _, _, ms, c, _, _, h⟩ := asI_e h; exact ⟨_, _, h⟩
    case clr z x =>
      obtain ⟨a, n, _, _, h⟩ := asS_e h
      rcases h with ⟨h7, h9⟩ | ⟨_, g, o, cs, h7, h8, h9, h10, h11⟩
      · exact ⟨_, _, h9⟩
      · exact ⟨_, _, h11⟩
    case bad => exact h.elim

/-! What is not read does not matter. -/
theorem ev_congr {t t' : T} {x : X} (h : ∀ k ∈ x.rd, t k = t' k) : ev t x = ev t' x := by
  cases x with
  | t n => exact h n (by simp [X.rd])
  | c v => rfl
theorem evs_congr {t t' : T} : ∀ {l : List X}, (∀ k ∈ rds l, t k = t' k) → evs t l = evs t' l
  | [], _ => rfl
  | x :: l, h => by
    simp only [evs]
    rw [ev_congr (fun k hk => h k (by simp [rds, hk])), evs_congr (fun k hk => h k (by simp [rds, hk]))]
theorem evo_congr {t t' : T} {x : Option X} (h : ∀ k ∈ rdo x, t k = t' k) : evo t x = evo t' x := by
  cases x with
  | none => rfl
  | some x => simp only [evo]; rw [ev_congr h]
theorem evp_congr {t t' : T} : ∀ {l : List (Nat × Nat × X)}, (∀ k ∈ rdp l, t k = t' k) → evp t l = evp t' l
  | [], _ => rfl
  | (a, b, x) :: l, h => by
    simp only [evp]
    rw [ev_congr (fun k hk => h k (by simp [rdp, hk])), evp_congr (fun k hk => h k (by simp [rdp, hk]))]
theorem stepI_congr (P : Program) {i : I} {t t' : T} (h : ∀ k ∈ i.reads, t k = t' k) (w : World) (K : Value → World → Prop) : stepI P i t w K = stepI P i t' w K := by
  cases i <;> simp only [stepI]
  all_goals try simp only [I.reads, List.mem_append] at h
  case mov x => rw [ev_congr h]
  case un x => rw [ev_congr h]
  case cnv x => rw [ev_congr h]
  case ext x => rw [ev_congr h]
  case nil x => rw [ev_congr h]
  case fad x => rw [ev_congr h]
  case fld x => rw [ev_congr h]
  case fldn x => rw [ev_congr h]
  case len x => rw [ev_congr h]
  case cap x => rw [ev_congr h]
  case ld x => rw [ev_congr h]
  case ldn x => rw [ev_congr h]
  case box x => rw [ev_congr h]
  case mki x => rw [ev_congr h]
  case isn x => rw [ev_congr h]
  case s2t x => rw [ev_congr h]
  case clr x => rw [ev_congr h]
  case eqt x y => rw [ev_congr (x := x) (fun k hk => h k (Or.inl hk)), ev_congr (x := y) (fun k hk => h k (Or.inr hk))]
  case mlk x y => rw [ev_congr (x := x) (fun k hk => h k (Or.inl hk)), ev_congr (x := y) (fun k hk => h k (Or.inr hk))]
  case mup x y z => rw [ev_congr (x := x) (fun k hk => h k (Or.inl (Or.inl hk))), ev_congr (x := y) (fun k hk => h k (Or.inl (Or.inr hk))), ev_congr (x := z) (fun k hk => h k (Or.inr hk))]
  case pick c a b => rw [ev_congr (fun k hk => h k (Or.inl (Or.inl hk))), ev_congr (x := a) (fun k hk => h k (Or.inl (Or.inr hk))), ev_congr (x := b) (fun k hk => h k (Or.inr hk))]
  case bin x y => rw [ev_congr (x := x) (fun k hk => h k (Or.inl hk)), ev_congr (x := y) (fun k hk => h k (Or.inr hk))]
  case eqb x y => rw [ev_congr (x := x) (fun k hk => h k (Or.inl hk)), ev_congr (x := y) (fun k hk => h k (Or.inr hk))]
  case eqp x y => rw [ev_congr (x := x) (fun k hk => h k (Or.inl hk)), ev_congr (x := y) (fun k hk => h k (Or.inr hk))]
  case ixs x y => rw [ev_congr (x := x) (fun k hk => h k (Or.inl hk)), ev_congr (x := y) (fun k hk => h k (Or.inr hk))]
  case ixa x y => rw [ev_congr (x := x) (fun k hk => h k (Or.inl hk)), ev_congr (x := y) (fun k hk => h k (Or.inr hk))]
  case ixv x y => rw [ev_congr (x := x) (fun k hk => h k (Or.inl hk)), ev_congr (x := y) (fun k hk => h k (Or.inr hk))]
  case ixt x y => rw [ev_congr (x := x) (fun k hk => h k (Or.inl hk)), ev_congr (x := y) (fun k hk => h k (Or.inr hk))]
  case apz x y => rw [ev_congr (x := x) (fun k hk => h k (Or.inl hk)), ev_congr (x := y) (fun k hk => h k (Or.inr hk))]
  case ixvn x y => rw [ev_congr (x := x) (fun k hk => h k (Or.inl hk)), ev_congr (x := y) (fun k hk => h k (Or.inr hk))]
  case mnx x y => rw [ev_congr (x := x) (fun k hk => h k (Or.inl hk)), ev_congr (x := y) (fun k hk => h k (Or.inr hk))]
  case st x y => rw [ev_congr (x := x) (fun k hk => h k (Or.inl hk)), ev_congr (x := y) (fun k hk => h k (Or.inr hk))]
  case stn x y => rw [ev_congr (x := x) (fun k hk => h k (Or.inl hk)), ev_congr (x := y) (fun k hk => h k (Or.inr hk))]
  case mks x y => rw [ev_congr (x := x) (fun k hk => h k (Or.inl hk)), ev_congr (x := y) (fun k hk => h k (Or.inr hk))]
  case app x y => rw [ev_congr (x := x) (fun k hk => h k (Or.inl hk)), ev_congr (x := y) (fun k hk => h k (Or.inr hk))]
  case cpy x y => rw [ev_congr (x := x) (fun k hk => h k (Or.inl hk)), ev_congr (x := y) (fun k hk => h k (Or.inr hk))]
  case slc x lo hi mx => rw [ev_congr (x := x) (fun k hk => h k (Or.inl (Or.inl (Or.inl hk)))), evo_congr (x := lo) (fun k hk => h k (Or.inl (Or.inl (Or.inr hk)))), evo_congr (x := hi) (fun k hk => h k (Or.inl (Or.inr hk))), evo_congr (x := mx) (fun k hk => h k (Or.inr hk))]
  case sla x lo hi mx => rw [ev_congr (x := x) (fun k hk => h k (Or.inl (Or.inl (Or.inl hk)))), evo_congr (x := lo) (fun k hk => h k (Or.inl (Or.inl (Or.inr hk)))), evo_congr (x := hi) (fun k hk => h k (Or.inl (Or.inr hk))), evo_congr (x := mx) (fun k hk => h k (Or.inr hk))]
  case bld ps => rw [evp_congr h]
  case bsl ps => rw [evp_congr h]
  case call f as => rw [ev_congr (x := f) (fun k hk => h k (Or.inl hk)), evs_congr (l := as) (fun k hk => h k (Or.inr hk))]
  case mkf a b => rw [evs_congr (l := a) (fun k hk => h k (Or.inl hk)), evs_congr (l := b) (fun k hk => h k (Or.inr hk))]
end Go.Fw
