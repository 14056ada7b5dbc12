-- Written by a program of this session (wip/row.py) for this seat.
import Derived.Test.YtcbjabnnokjnpaaRows
import Derived.Test.YtcbjabnnokjnpaaPAx5
import Derived.Test.YtcbjabnnokjnpaaPureBack
import Derived.Test.YtcbjabnnokjnpaaWAll
import Derived.WalkKit
import Derived.ProofKit
import Derived.OpenShut
import Derived.ShutString
import Derived.ChangeOld
import Derived.Below
import Derived.SizedLaws
import Derived.Carry
import Derived.Lib.SmallJoins
namespace Go.Proofs.Ytcbjabnnokjnpaa.shapeBack
open Go.ChangeShapes Go.WideShapes Go.ChangeAt Go.RowKit Go.Joins
open Go.Proofs.YtcbjabnnokjnpaaW.Open Go.Proofs.YtcbjabnnokjnpaaW.PrintWords Go.Proofs.Ytcbjabnnokjnpaa.PA
set_option linter.unusedVariables false
theorem own : ownKnob Try.prog.godebug = none := by kernel_rfl
theorem laidOut : laidOutB Try.prog = true := by kernel_rfl
set_option maxRecDepth 100000 in
theorem lifted (os : Os) (started : os.Started) (H : Type) (enc : TypeId × Value → H) :
    ReturnsInHanded {} Try.checked os 6 .any (Rows.shapeBackSpec.pre6 enc Try.prog Try.f6 Rows.shapeBackRow.domain false) (Rows.shapeBackSpec.post enc Try.prog Try.f6 false true false false) := by
  refine returnsInHanded_of_change_sized (C := Try.checked) own started (by kernel_rfl) Try.func6
    (ChangeSpec.witness6 (enc := enc) (C := Try.checked) false ⟨#[], #[.agg #[.int .i64 0, .int .i64 0, .int .i64 0], .slice none 0 0], []⟩ 8 (by kernel_rfl) (by kernel_rfl) (by kernel_rfl) (by kernel_rfl)) ?_
  intro W base args ds gs before hval0 hW hcnd hsz0 _
  have hsz : (DataW.weightsEach Try.prog (Try.f6.params.toList ++ Rows.shapeBackSpec.plain.varTypes Try.prog) (ds ++ gs)).all (· ≤ reachBytes) = true := hsz0
  have hval : ∀ (j : Nat) t v, Try.f6.params[j]? = some t → args[j]? = some v → Value.okWide Try.prog W .any base t v := hval0
  have hW' := hW
  obtain ⟨p, q, hA0, hV, rfl, hfz, hnd⟩ := hW
  have hA : DataW.TrodAll enc Try.prog W 0 (fun _ => true) true Try.f6.params.toList args.toList ds p := hA0
  rw [Try.params6] at hA hval hsz
  obtain ⟨v0, vs0, d0, ds0, p0, q0, hargs, rfl, rfl, h0, r0⟩ := trodAll_cons hA
  obtain ⟨v1, vs1, d1, ds1, p1, q1, rfl, rfl, rfl, h1, r1⟩ := trodAll_cons r0
  obtain ⟨rfl, rfl, rfl⟩ := trodAll_nil r1
  obtain rfl : args = #[v0, v1] := by cases args; simp_all
  obtain ⟨rfl, rfl⟩ := trodVars_none hV
  have k0 := h0
  have lt0 : ∀ x ∈ p0, x.block < W.heap.size := by obtain ⟨m, hm⟩ := k0; exact DataW.trod_lt m _ _ _ hm
  obtain ⟨u0_0, u0_1, u0_2, y0_0, y0_1, y0_2, n0, rfl, rfl, rfl, g0_0, g0_1, g0_2⟩ := open_agg3 Try.underlying32 (by kernel_rfl) (by kernel_rfl) (hval 0 32 v0 rfl rfl) h0
  obtain ⟨a0_0, hc0_0, _, w0_0⟩ := DataW.trod_int Try.underlying3 g0_0
  obtain rfl : u0_0 = .int .i64 a0_0 := by simpa using hc0_0
  obtain ⟨a0_1, hc0_1, _, w0_1⟩ := DataW.trod_int Try.underlying3 g0_1
  obtain rfl : u0_1 = .int .i64 a0_1 := by simpa using hc0_1
  obtain ⟨a0_2, hc0_2, _, w0_2⟩ := DataW.trod_int Try.underlying3 g0_2
  obtain rfl : u0_2 = .int .i64 a0_2 := by simpa using hc0_2
  have k1 := h1
  have lt1 : ∀ x ∈ p1, x.block < W.heap.size := by obtain ⟨m, hm⟩ := k1; exact DataW.trod_lt m _ _ _ hm
  obtain ⟨A1, len1, cap1, rfl⟩ := okWide_slice Try.underlying27 (hval 1 27 v1 rfl rfl)
  obtain ⟨⟨l1, ⟨B1, c1, he1, hc1, hC1⟩, W1⟩, _⟩ := Opens.arg Pure.opens_bytes h1 (weights_at hsz (j := 1) rfl rfl)
  obtain ⟨rfl, rfl, rfl⟩ : A1 = B1 ∧ len1 = l1.length ∧ cap1 = c1 := by simpa [Value.cells] using he1
  clear hA0 hval0 hsz0 hsz
  obtain ⟨k, h⟩ := Pure.ShapeBack a0_0 a0_1 a0_2 l1 w0_0 w0_1 w0_2 W1
  refine (PA.culletlaw16_ShapeBack.calls k a0_0 a0_1 a0_2 _ _ l1 true W hC1 hc1 h).mono fun e W' hr => ?_
  obtain ⟨rfl, bel⟩ := hr
  exact ⟨_, rfl, _, _, _, [], _, [], hW', trodAll_mk1 (shut_bool Try.underlying4 _), (trodAll_cons_mk (Below.trod laidOut (by kernel_rfl) (of_decide_eq_true (by kernel_rfl)) k0 bel lt0) (trodAll_cons_mk (Below.trod laidOut (by kernel_rfl) (of_decide_eq_true (by kernel_rfl)) k1 bel lt1) trodAll_mk0)), rfl, bel.frame _, fun h => by cases h⟩
theorem over : Rows.shapeBackRow.holds Try.pinned (OpenSpec.ofChange Rows.shapeBackSpec) :=
  OpenClaim.holds_of_wide 6 Try.f6 rfl rfl rfl rfl rfl rfl rfl ⟨rfl, rfl, rfl, rfl, rfl⟩ rfl rfl rfl rfl rfl (by kernel_rfl) Try.func6 (by kernel_rfl)
    (of_decide_eq_true (by kernel_rfl)) (by unfold Func.isWrapper; first | (rw [if_pos (by decide +kernel)]; kernel_rfl) | (rw [if_neg (by decide +kernel)]; exact ⟨rfl, rfl⟩))
    (fun os started H enc _ => lifted os started H enc)
theorem proved : Rows.ShapeBackSaid := over
#print axioms proved
end Go.Proofs.Ytcbjabnnokjnpaa.shapeBack
namespace Go.Proofs.Ytcbjabnnokjnpaa
/-- The row, under a short name, for the claim. -/
theorem shapeBack_holds : Rows.ShapeBackSaid := shapeBack.proved
end Go.Proofs.Ytcbjabnnokjnpaa
