import Derived.Test.YtbaljbadlfopgaaFwTW
import Derived.Test.YtbaljbadlfopgaaFwZW
import Derived.Test.YtbaljbadlfopgaaFwApW
set_option linter.all false
/- Slices of structs of the call's own: made, and indexed; all their cells are one block. -/
set_option linter.unusedVariables false
namespace Go.Fw
open Go Go.RowKit
variable {P : Program} {d : Option Nat} {l : List D} {Q : T → World → Prop} {t : T} {w : World}
theorem X_mksW {e b : Nat} {zs : List Value} {k k' : IntKind} {n : Nat} (hb : b * n ≤ maxBytes) (hn : n < 9223372036854775808)
    (hk : ∀ bc w', Row w' bc (repL zs n) → w.heap.size ≤ bc → Below w.heap.size w w' → W P Q l (put t d (.slice (some ⟨bc, 0, none⟩) n n)) w') : XW P (.mks e b zs (.c (.int k (n : Int))) (.c (.int k' (n : Int)))) d l Q t w := by
  show mksK w e b zs (.int k (n : Int)) (.int k' (n : Int)) (fun v w' => W P Q l (put t d v) w')
  simp only [mksK, asI]
  refine ⟨⟨by omega, by omega, by omega, by exact_mod_cast hb⟩, ?_⟩
  simp only [Int.toNat_natCast]
  exact hk _ _ (alloc_row w _ e) (Nat.le_refl _) (alloc_below w _)
theorem ixsW {m b n c i : Nat} {k : IntKind} (hi : i < n) (K : Value → Prop) : ixsK m (.slice (some ⟨b, 0, none⟩) n c) (.int k (i : Int)) K = K (.pointer (some ⟨b, i * m, none⟩)) := by
  simp only [ixsK, asS, asI, Int.toNat_natCast]
  apply propext
  have ha : (⟨b, 0, none⟩ : Addr).add (i * m) = ⟨b, i * m, none⟩ := by rw [addr_add0, Nat.zero_add]
  constructor
  · rintro ⟨_, p', hp', hk⟩; cases hp'; rw [ha] at hk; exact hk
  · intro hk; exact ⟨⟨by omega, by omega⟩, _, rfl, by rw [ha]; exact hk⟩
theorem X_ixsW {m b n c i : Nat} {k : IntKind} (hi : i < n) (P : Program) (d : Option Nat) (l : List D) (Q : T → World → Prop) (t : T) (w : World) : XW P (.ixs m (.c (.slice (some ⟨b, 0, none⟩) n c)) (.c (.int k (i : Int)))) d l Q t w = W P Q l (put t d (.pointer (some ⟨b, i * m, none⟩))) w :=
  ixsW (c := c) (k := k) hi (fun v => W P Q l (put t d v) w)
theorem E_ixsW {m b n c i : Nat} {k : IntKind} {n_ : Nat} {u_ : List Nat} {rs_ : List RN} {es_ : List EN} (hi : i < n) (P : Program) (d : Option Nat) (l : List D) (Q : T → World → Prop) (t : T) (w : World) : XE P n_ (.ixs m (.c (.slice (some ⟨b, 0, none⟩) n c)) (.c (.int k (i : Int)))) u_ d l Q rs_ es_ t w = WE P Q l rs_ es_ (put t d (.pointer (some ⟨b, i * m, none⟩))) w :=
  ixsW (c := c) (k := k) hi (fun v => WE P Q l rs_ es_ (put t d v) w)
theorem repL_two (v : Value) : ∀ n, repL [v, v] n = List.replicate (n * 2) v
  | 0 => by simp [repL]
  | n + 1 => by rw [repL, repL_two v n, show (n + 1) * 2 = n * 2 + 1 + 1 by omega, List.replicate_succ, List.replicate_succ]; rfl
/-- All memory below stays as it was, but one block. -/
def Kp (w : World) (b : Nat) (w' : World) : Prop := w.heap.size ≤ w'.heap.size ∧ Keep w w' (some b)
variable {w' w2 : World} {b : Nat}
theorem Kp.refl (w : World) (b : Nat) : Kp w b w := ⟨Nat.le_refl _, fun _ _ _ => rfl⟩
theorem Kp.up (h : Kp w b w') (hB : Below w'.heap.size w' w2) : Kp w b w2 :=
  ⟨Nat.le_trans h.1 hB.size, fun k hk hne => (hB.block k (Nat.lt_of_lt_of_le hk h.1)).trans (h.2 k hk hne)⟩
theorem Kp.gr (h : Kp w b w') {r : Option Nat} (hg : w'.grownBy w2 r) (hr : ∀ c, r = some c → c = b ∨ w.heap.size ≤ c) : Kp w b w2 :=
  ⟨Nat.le_trans h.1 hg.size, fun k hk hne => (hg.block k (Nat.lt_of_lt_of_le hk h.1) (fun e => by
    rcases hr k e.symm with h1 | h1
    · exact hne (by rw [h1])
    · omega)).trans (h.2 k hk hne)⟩
section
variable {α : Type} [Cell α] {B : Nat} {s : Value} {l : List α}
theorem Kp.sl (h : Kp w b w') (hs : Sl w s l) (hne : ∀ c, Fw.blk s = some c → c ≠ b) : Sl w' s l := hs.keep h.2 (fun c hc e => hne c hc (Option.some.inj e).symm)
theorem Kp.ow (h : Kp w b w') (hs : Ow B w s l) (hne : ∀ c, Fw.blk s = some c → c ≠ b) : Ow B w' s l := hs.keep h.2 (fun c hc e => hne c hc (Option.some.inj e).symm)
theorem Kp.row (h : Kp w b w') {c : Nat} {cs : List Value} (hs : Row w c cs) (hne : c ≠ b) : Row w' c cs := row_up hs (h.2 c (row_lt hs) (fun e => hne (Option.some.inj e).symm))
theorem Ow.gr' (h : Ow B w s l) {r : Option Nat} (hg : w.grownBy w' r) (hne : ∀ c, r = some c → Fw.blk s ≠ some c) : Ow B w' s l := by
  rcases h with ⟨rfl, rfl⟩ | ⟨c, cap, rest, rfl, h1, hc, hr⟩
  · exact Ow.nil B w'
  · exact Or.inr ⟨c, cap, rest, rfl, h1, hc, row_up hr (hg.block c (row_lt hr) (fun e => hne c e.symm rfl))⟩
end
end Go.Fw
