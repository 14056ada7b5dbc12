import Derived.Test.YtbaljbadlfopgaaProg
import Derived.Test.YtbaljbadlfopgaaFwTK
import Derived.Test.YtbaljbadlfopgaaSMwtsK
import Derived.Test.YtbaljbadlfopgaaFwStK
set_option linter.all false
set_option linter.unusedVariables false
set_option linter.unusedSimpArgs false
set_option maxRecDepth 100000
set_option maxHeartbeats 1000000
namespace Go.Proofs.Ytbaljbadlfopgaa.Fw
open Go Go.Fw Go.Proofs
attribute [local irreducible] stepI

end Go.Proofs.Ytbaljbadlfopgaa.Fw
namespace Go.Proofs.Ytbaljbadlfopgaa.Fw
open Go Go.Fw
/-- The numbers of the shards that are there. -/
def prsL (L : Nat → Nat) (n : Nat) : List Nat := (List.range n).filter fun j => !decide (L j = 0)
def xsS (L : Nat → Nat) (n : Nat) : List (El 8) := (prsL L n).map en8
/-- One column's values, weighted. -/
def ysS (f : Int) (k : Nat) (L : Nat → Nat) (n : Nat) (R : Nat → List (El 8)) (t : Nat) : List (El 8) := (prsL L n).map fun s => wt f k s * nth (R s) t
def offS (f : Int) (k : Nat) (L : Nat → Nat) (n : Nat) (R : Nat → List (El 8)) (t : Nat) (g : List (El 8)) : List Nat := offs g (nth (xsS L n)) (nth (ysS f k L n R t)) (prsL L n).length
/-- A short polynomial near column t. -/
def nearS (f : Int) (k : Nat) (L : Nat → Nat) (n : Nat) (R : Nat → List (El 8)) (t : Nat) (g : List (El 8)) : Prop := tr g = g ∧ g.length ≤ k ∧ (offS f k L n R t g).length ≤ ((prsL L n).length - k) / 2
/-- The byte of shard s by the polynomial g. -/
def valS (f : Int) (k : Nat) (g : List (El 8)) (s : Nat) : El 8 := evl g (en8 s) * (wt f k s).inv
/-- What Partial's leave means. -/
structure MOk (f k m : Int) (L : Nat → Nat) (n len : Nat) : Prop where
  hf : f = 0 ∨ f = 1
  hk : 1 ≤ k
  hm : 1 ≤ m
  km : k + m ≤ 256
  hn : (n : Int) = k + m
  hlen : 1 ≤ len
  hL : ∀ j, j < n → L j = 0 ∨ L j = len
  hz : ((zis L n).length : Int) ≤ m
end Go.Proofs.Ytbaljbadlfopgaa.Fw

set_option linter.unusedVariables false
set_option linter.unusedSimpArgs false
set_option maxRecDepth 100000
set_option maxHeartbeats 1000000
namespace Go.Proofs.Ytbaljbadlfopgaa.Fw
open Go Go.Fw Go.Proofs
attribute [local irreducible] stepI

end Go.Proofs.Ytbaljbadlfopgaa.Fw
namespace Go.Proofs.Ytbaljbadlfopgaa.Fw
open Go Go.Fw
def misL (L : Nat → Nat) (n : Nat) : List Nat := (List.range n).filter fun j => decide (L j = 0)
/-- The columns that are done. -/
def Ent (B : Nat) (w : World) (f : Int) (k : Nat) (L : Nat → Nat) (n : Nat) (R : Nat → List (El 8)) (CL : List Hd) (G : Nat → List (El 8)) (N : Nat) : Prop :=
  ∀ t, t < N → nearS f k L n R t (G t) ∧ Ow B w (Hj CL (t * 2)) ((prsL L n).map (valS f k (G t))) ∧ Ow B w (Hj CL (t * 2 + 1)) ((misL L n).map (valS f k (G t)))
section
variable {B : Nat} {w w' : World} {f : Int} {k : Nat} {L : Nat → Nat} {n : Nat} {R : Nat → List (El 8)} {CL : List Hd} {G : Nat → List (El 8)} {N : Nat}
theorem Ent.up (h : Ent B w f k L n R CL G N) (hB : RowKit.Below w.heap.size w w') : Ent B w' f k L n R CL G N := fun t ht => ⟨(h t ht).1, (h t ht).2.1.up hB, (h t ht).2.2.up hB⟩
theorem Ent.mono {B' : Nat} (h : Ent B w f k L n R CL G N) (hB : B' ≤ B) : Ent B' w f k L n R CL G N := fun t ht => ⟨(h t ht).1, (h t ht).2.1.mono hB, (h t ht).2.2.mono hB⟩
theorem Ent.push {x y : Hd} {g : List (El 8)} (h : Ent B w f k L n R CL G N) (hl : N * 2 + 1 < CL.length) (hn : nearS f k L n R N g) (hx : Ow B w (Cell.v x) ((prsL L n).map (valS f k g))) (hy : Ow B w (Cell.v y) ((misL L n).map (valS f k g))) :
    Ent B w f k L n R ((CL.set (N * 2) x).set (N * 2 + 1) y) (fun t => if t = N then g else G t) (N + 1) := fun t ht => by
  have e1 : ∀ i, Hj ((CL.set (N * 2) x).set (N * 2 + 1) y) i = if i = N * 2 + 1 then Cell.v y else if i = N * 2 then Cell.v x else Hj CL i := fun i => by
    rw [Hj_set (by rw [List.length_set]; exact hl), Hj_set (by omega)]
  rw [e1, e1]
  by_cases e : t = N
  · subst e
    have eg : (if t = t then g else G t) = g := if_pos rfl
    rw [if_neg (show ¬ t * 2 = t * 2 + 1 by omega), if_pos rfl, if_pos rfl]
    simp only [eg]
    exact ⟨hn, hx, hy⟩
  · have eg : (if t = N then g else G t) = G t := if_neg e
    rw [if_neg (show ¬ t * 2 = N * 2 + 1 by omega), if_neg (show ¬ t * 2 = N * 2 by omega), if_neg (show ¬ t * 2 + 1 = N * 2 + 1 by omega), if_neg (show ¬ t * 2 + 1 = N * 2 by omega)]
    simp only [eg]
    exact h t (by omega)
end
end Go.Proofs.Ytbaljbadlfopgaa.Fw
