import Derived.Test.YtcdagkcchfibjaaProg
import Derived.Test.YtcdagkcchfibjaaFwTT
import Derived.Test.YtcdagkcchfibjaaSSPrT
import Derived.Test.YtcdagkcchfibjaaSS04vT
set_option linter.all false
set_option linter.unusedVariables false
set_option linter.unusedSimpArgs false
set_option maxRecDepth 100000
set_option maxHeartbeats 1000000
namespace Go.Proofs.Ytcdagkcchfibjaa.Fw
open Go Go.Fw Go.Proofs
attribute [local irreducible] stepI

end Go.Proofs.Ytcdagkcchfibjaa.Fw
namespace Go.Proofs.Ytcdagkcchfibjaa.Fw
open Go Go.Fw
theorem nw_interp {n : Nat} [Fw.Fd n] {l1 l2 m : List (El n)} (hnd : ∀ a b, a < l1.length → b < l1.length → l1.getD a 0 = l1.getD b 0 → a = b) (hc : co m = nw (fun j => l1.getD j 0) (fun j => l2.getD j 0) 0 l1.length) (j : Nat) (hj : j < l1.length) : evl m (l1.getD j 0) = l2.getD j 0 := by
  have h := nw_ev (fun j => l1.getD j 0) (fun j => l2.getD j 0) l1.length hnd l1.length 0 (by omega) j hj
  rw [Nat.zero_add] at h
  rw [evl_co, ← h, hc]
  exact evn_eq (by rw [← hc]; exact co_dg m) (nw_dg _ _ 0 _)
theorem nw_back {n : Nat} [Fw.Fd n] {l1 l2 l3 m : List (El n)} (hnd : ∀ a b, a < l1.length → b < l1.length → l1.getD a 0 = l1.getD b 0 → a = b) (h2 : l2.length = l1.length) (hc : co m = nw (fun j => l1.getD j 0) (fun j => l3.getD j 0) 0 l1.length) (h3 : ∀ j, j < l1.length → l3.getD j 0 = evl l2 (l1.getD j 0)) : co m = co l2 := by
  refine Ps.eq_of_add (zero_of (fun j => l1.getD j 0) 0 l1.length ?_ (fun a b ha hb e => hnd a b ha hb (by simpa using e)) fun j hj => ?_)
  · rw [hc]
    refine (nw_dg _ _ 0 _).add ?_
    have := co_dg l2
    rwa [h2] at this
  · have h := nw_ev (fun j => l1.getD j 0) (fun j => l3.getD j 0) l1.length hnd l1.length 0 (by omega) j hj
    rw [evn_add, hc, h, Nat.zero_add, h3 j hj, evl_co, h2, El.add_self]
theorem th_b (m : List (El 8)) (ht : tr m = m) (hc : co m = nw (fun j => (([⟨0⟩, ⟨1⟩] : List (El 16)).map lo8).getD j 0) (fun j => (([⟨5⟩, ⟨7⟩] : List (El 16)).map lo8).getD j 0) 0 2) : m.map em8 = [⟨5⟩, ⟨2⟩] := by
  have : m = [⟨5⟩, ⟨2⟩] := tr_inj ht (by decide +kernel) (hc.trans (ps_eq 2 (nw_dg _ _ 0 2) (co_dg _) (by decide +kernel)))
  rw [this]; rfl
theorem th_nd : ∀ a b, a < ((([⟨0⟩, ⟨1⟩] : List (El 16)).map lo8)).length → b < ((([⟨0⟩, ⟨1⟩] : List (El 16)).map lo8)).length → ((([⟨0⟩, ⟨1⟩] : List (El 16)).map lo8)).getD a 0 = ((([⟨0⟩, ⟨1⟩] : List (El 16)).map lo8)).getD b 0 → a = b := by
  intro a b ha hb e
  have ha : a < 2 := ha
  have hb : b < 2 := hb
  have ha' : a = 0 ∨ a = 1 := by omega
  have hb' : b = 0 ∨ b = 1 := by omega
  rcases ha' with rfl | rfl <;> rcases hb' with rfl | rfl
  · rfl
  · exact absurd e (by decide +kernel)
  · exact absurd e (by decide +kernel)
  · rfl
end Go.Proofs.Ytcdagkcchfibjaa.Fw
