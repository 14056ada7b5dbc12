import Derived.Test.YtbaljbadlfopgaaRows
import Derived.Test.YtbaljbadlfopgaaSRY5K
import Derived.Test.YtbaljbadlfopgaaFwOK
import Derived.WalkKit
import Derived.ProofKit
import Derived.OpenShut
import Derived.ShutString
import Derived.ChangeOld
import Derived.Below
import Derived.SizedLaws
import Derived.Carry
import Derived.Lib.SmallJoins
set_option linter.all false
set_option linter.unusedVariables false
namespace Go.Proofs.Ytbaljbadlfopgaa.mendColumns
open Go Go.Fw Go.ChangeShapes Go.WideShapes Go.ChangeAt Go.RowKit Go.Joins Go.Proofs.Ytbaljbadlfopgaa.Fw
theorem own : ownKnob Try.prog.godebug = none := by kernel_rfl
theorem laidOut : laidOutB Try.prog = true := by kernel_rfl
set_option maxRecDepth 100000 in
set_option maxHeartbeats 2000000 in
theorem lifted (os : Os) (started : os.Started) (H : Type) (enc : TypeId × Value → H) :
    ReturnsInHanded {} Try.checked os 3 .any (Rows.mendColumnsSpec.pre6 enc Try.prog Try.f3 Rows.mendColumnsRow.domain false) (Rows.mendColumnsSpec.post enc Try.prog Try.f3 false true false false) := by
  refine returnsInHanded_of_change_sized (C := Try.checked) own started (by kernel_rfl) Try.func3
    (ChangeSpec.witness6 (enc := enc) (C := Try.checked) false ⟨#[], #[.slice none 0 0], []⟩ 8 (by kernel_rfl) (by kernel_rfl) (by kernel_rfl) (by kernel_rfl)) ?_
  intro W base args ds gs before hval0 hW hcnd hsz0 _
  have hsz : (DataW.weightsEach Try.prog (Try.f3.params.toList ++ Rows.mendColumnsSpec.plain.varTypes Try.prog) (ds ++ gs)).all (· ≤ reachBytes) = true := hsz0
  have hval : ∀ (j : Nat) t v, Try.f3.params[j]? = some t → args[j]? = some v → Value.okWide Try.prog W .any base t v := hval0
  have hW' := hW
  obtain ⟨p, q, hA0, hV, rfl, hfz, hnd⟩ := hW
  have hA : DataW.TrodAll enc Try.prog W 0 (fun _ => true) true Try.f3.params.toList args.toList ds p := hA0
  rw [Try.params3] at hA hval hsz
  obtain ⟨v0, vs0, d0, ds0, p0, q0, hargs, rfl, rfl, h0, r0⟩ := trodAll_cons hA
  obtain ⟨rfl, rfl, rfl⟩ := trodAll_nil r0
  obtain rfl : args = #[v0] := by cases args; simp_all
  obtain ⟨rfl, rfl⟩ := trodVars_none hV
  have k0 := h0
  have lt0 : ∀ x ∈ p0, x.block < W.heap.size := by obtain ⟨m, hm⟩ := k0; exact DataW.trod_lt m _ _ _ hm
  obtain ⟨A0, len0, cap0, rfl⟩ := okWide_slice Try.underlying22 (hval 0 22 v0 rfl rfl)
  have a0 := Opn.arg (Opn.sliceW (m := 5) 2 Try.underlying22 (by kernel_rfl) (by decide +kernel) (Opn.struct (m := 5) Try.underlying27 (by kernel_rfl) (OpF.cons (m := 1) rfl (by kernel_rfl) (Opn.int Try.underlying3) (OpF.cons (m := 1) rfl (by kernel_rfl) (Opn.int Try.underlying3) (OpF.cons (m := 1) rfl (by kernel_rfl) (Opn.int Try.underlying3) (OpF.cons (m := 1) rfl (by kernel_rfl) (Opn.slice (α := Int) (B := 8) Try.underlying24 (by kernel_rfl) (by kernel_rfl) (Opn.ci Try.underlying3)) (OpF.cons (m := 1) rfl (by kernel_rfl) (Opn.slice (α := (El 8)) (B := 1) Try.underlying25 (by kernel_rfl) (by kernel_rfl) (Opn.el8 Try.underlying5)) OpF.nil))))))) h0 (weights_at hsz (j := 0) rfl rfl)
  simp only [Value.cells] at a0
  obtain ⟨s0, l0, e, h0, m0, q0⟩ := a0
  obtain rfl : s0 = .slice A0 len0 cap0 := by simpa using e.symm
  clear hA0 hval0 hsz0 hsz
  have body : CallV Try.prog 3 [.slice A0 len0 cap0] W fun v w' => v = .bool true ∧ Below W.heap.size W w' := by
    exact culletlaw19_MendColumns_spec W _ l0 h0 (by omega) (fun vs hv => opm_of (q0 vs hv))
  refine body.2.mono fun e W' hr => ?_
  obtain ⟨v, rfl, rfl, bel⟩ := hr
  exact ⟨_, rfl, _, _, _, [], _, [], hW', trodAll_mk1 (shut_bool Try.underlying4 _), (trodAll_cons_mk (Below.trod laidOut (by kernel_rfl) (of_decide_eq_true (by kernel_rfl)) k0 bel lt0) trodAll_mk0), rfl, bel.frame _, fun h => by cases h⟩
theorem over : Rows.mendColumnsRow.holds Try.pinned (OpenSpec.ofChange Rows.mendColumnsSpec) :=
  OpenClaim.holds_of_wide 3 Try.f3 rfl rfl rfl rfl rfl rfl rfl ⟨rfl, rfl, rfl, rfl, rfl⟩ rfl rfl rfl rfl rfl (by kernel_rfl) Try.func3 (by kernel_rfl)
    (of_decide_eq_true (by kernel_rfl)) (by unfold Func.isWrapper; first | (rw [if_pos (by decide +kernel)]; kernel_rfl) | (rw [if_neg (by decide +kernel)]; exact ⟨rfl, rfl⟩))
    (fun os started H enc _ => lifted os started H enc)
theorem proved : Rows.MendColumnsSaid := over
#print axioms proved
end Go.Proofs.Ytbaljbadlfopgaa.mendColumns
namespace Go.Proofs.Ytbaljbadlfopgaa
theorem mendColumns_holds : Rows.MendColumnsSaid := mendColumns.proved
end Go.Proofs.Ytbaljbadlfopgaa
