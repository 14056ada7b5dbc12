import Derived.Test.YtbaljbadlfopgaaRows
import Derived.Test.YtbaljbadlfopgaaSTm7W
import Derived.Test.YtbaljbadlfopgaaFwOW
import Derived.WalkKit
import Derived.ProofKit
import Derived.OpenShut
import Derived.ShutString
import Derived.ChangeOld
import Derived.Below
import Derived.SizedLaws
import Derived.Carry
import Derived.Lib.SmallJoins
set_option linter.all false
set_option linter.unusedVariables false
namespace Go.Proofs.Ytbaljbadlfopgaa.wholeMends
open Go Go.Fw Go.ChangeShapes Go.WideShapes Go.ChangeAt Go.RowKit Go.Joins Go.Proofs.Ytbaljbadlfopgaa.Fw
theorem own : ownKnob Try.prog.godebug = none := by kernel_rfl
theorem laidOut : laidOutB Try.prog = true := by kernel_rfl
set_option maxRecDepth 100000 in
set_option maxHeartbeats 2000000 in
theorem lifted (os : Os) (started : os.Started) (H : Type) (enc : TypeId × Value → H) :
    ReturnsInHanded {} Try.checked os 12 .any (Rows.wholeMendsSpec.pre6 enc Try.prog Try.f12 Rows.wholeMendsRow.domain false) (Rows.wholeMendsSpec.post enc Try.prog Try.f12 false true false false) := by
  refine returnsInHanded_of_change_sized (C := Try.checked) own started (by kernel_rfl) Try.func12
    (ChangeSpec.witness6 (enc := enc) (C := Try.checked) false ⟨#[], #[.agg #[.int .i64 0, .int .i64 0, .slice none 0 0, .slice none 0 0, .slice none 0 0]], []⟩ 8 (by kernel_rfl) (by kernel_rfl) (by kernel_rfl) (by kernel_rfl)) ?_
  intro W base args ds gs before hval0 hW hcnd hsz0 _
  have hsz : (DataW.weightsEach Try.prog (Try.f12.params.toList ++ Rows.wholeMendsSpec.plain.varTypes Try.prog) (ds ++ gs)).all (· ≤ reachBytes) = true := hsz0
  have hval : ∀ (j : Nat) t v, Try.f12.params[j]? = some t → args[j]? = some v → Value.okWide Try.prog W .any base t v := hval0
  have hW' := hW
  obtain ⟨p, q, hA0, hV, rfl, hfz, hnd⟩ := hW
  have hA : DataW.TrodAll enc Try.prog W 0 (fun _ => true) true Try.f12.params.toList args.toList ds p := hA0
  rw [Try.params12] at hA hval hsz
  obtain ⟨v0, vs0, d0, ds0, p0, q0, hargs, rfl, rfl, h0, r0⟩ := trodAll_cons hA
  obtain ⟨rfl, rfl, rfl⟩ := trodAll_nil r0
  obtain rfl : args = #[v0] := by cases args; simp_all
  obtain ⟨rfl, rfl⟩ := trodVars_none hV
  have k0 := h0
  have lt0 : ∀ x ∈ p0, x.block < W.heap.size := by obtain ⟨m, hm⟩ := k0; exact DataW.trod_lt m _ _ _ hm
  obtain ⟨cs0, rfl, -⟩ := okWide_struct Try.underlying90 (hval 0 90 v0 rfl rfl)
  obtain ⟨g0, a0⟩ : cs0.toList.length = 5 ∧ _ := Opn.arg (Opn.struct (m := 5) Try.underlying90 (by kernel_rfl) (OpF.cons (m := 1) rfl (by kernel_rfl) (Opn.int Try.underlying3) (OpF.cons (m := 1) rfl (by kernel_rfl) (Opn.int Try.underlying3) (OpF.cons (m := 1) rfl (by kernel_rfl) (Opn.slice (α := Hd) (B := 24) Try.underlying46 (by kernel_rfl) (by kernel_rfl) (Opn.hd (Opn.slice (α := (El 8)) (B := 1) Try.underlying25 (by kernel_rfl) (by kernel_rfl) (Opn.el8 Try.underlying5)))) (OpF.cons (m := 1) rfl (by kernel_rfl) (Opn.slice (α := Int) (B := 8) Try.underlying24 (by kernel_rfl) (by kernel_rfl) (Opn.ci Try.underlying3)) (OpF.cons (m := 1) rfl (by kernel_rfl) (Opn.sliceW (m := 3) 2 Try.underlying88 (by kernel_rfl) (by decide +kernel) (Opn.struct (m := 3) Try.underlying94 (by kernel_rfl) (OpF.cons (m := 1) rfl (by kernel_rfl) (Opn.int Try.underlying3) (OpF.cons (m := 1) rfl (by kernel_rfl) (Opn.int Try.underlying3) (OpF.cons (m := 1) rfl (by kernel_rfl) (Opn.el8 Try.underlying5) OpF.nil))))) OpF.nil)))))) h0 (weights_at hsz (j := 0) rfl rfl)
  simp only [Value.cells] at a0
  generalize hcs0 : cs0.toList = c0 at a0 g0
  obtain rfl := arr_of hcs0
  obtain ⟨u0_0, c0_0, rfl, y0_0, a0_0⟩ := RF.split a0 RI.one
  obtain ⟨n0_0, e, w0_0⟩ := y0_0
  obtain rfl : u0_0 = .int .i64 n0_0 := by simpa using e
  obtain ⟨u0_1, c0_1, rfl, y0_1, a0_1⟩ := RF.split a0_0 RI.one
  obtain ⟨n0_1, e, w0_1⟩ := y0_1
  obtain rfl : u0_1 = .int .i64 n0_1 := by simpa using e
  obtain ⟨u0_2, c0_2, rfl, y0_2, a0_2⟩ := RF.split a0_1 RS.one
  obtain ⟨s0_2, l0_2, e, h0_2, m0_2, q0_2⟩ := y0_2
  obtain rfl : s0_2 = u0_2 := by simpa using e.symm
  obtain ⟨u0_3, c0_3, rfl, y0_3, a0_3⟩ := RF.split a0_2 RS.one
  obtain ⟨s0_3, l0_3, e, h0_3, m0_3, q0_3⟩ := y0_3
  obtain rfl : s0_3 = u0_3 := by simpa using e.symm
  obtain ⟨u0_4, c0_4, rfl, y0_4, a0_4⟩ := RF.split a0_3 RSW.one
  obtain ⟨s0_4, l0_4, e, h0_4, m0_4, q0_4⟩ := y0_4
  obtain rfl : s0_4 = u0_4 := by simpa using e.symm
  obtain rfl : c0_4 = [] := List.eq_nil_of_length_eq_zero (by simpa using g0)
  clear hA0 hval0 hsz0 hsz
  have body : CallV Try.prog 12 [.agg #[.int .i64 n0_0, .int .i64 n0_1, s0_2, s0_3, s0_4]] W fun v w' => v = .bool true ∧ Below W.heap.size W w' := by
    obtain ⟨RR, hRR⟩ := rows_of q0_2
    exact cullettop_WholeMends_spec W _ _ _ _ _ _ RR l0_3 l0_4 h0_2 (fun j hj => (hRR j hj).1) h0_3 h0_4 (fun vs hv => wrong_of (q0_4 vs hv)) (fun j hj => by have := (hRR j hj).2; omega) (by omega) (by omega) (by omega)
  refine body.2.mono fun e W' hr => ?_
  obtain ⟨v, rfl, rfl, bel⟩ := hr
  exact ⟨_, rfl, _, _, _, [], _, [], hW', trodAll_mk1 (shut_bool Try.underlying4 _), (trodAll_cons_mk (Below.trod laidOut (by kernel_rfl) (of_decide_eq_true (by kernel_rfl)) k0 bel lt0) trodAll_mk0), rfl, bel.frame _, fun h => by cases h⟩
theorem over : Rows.wholeMendsRow.holds Try.pinned (OpenSpec.ofChange Rows.wholeMendsSpec) :=
  OpenClaim.holds_of_wide 12 Try.f12 rfl rfl rfl rfl rfl rfl rfl ⟨rfl, rfl, rfl, rfl, rfl⟩ rfl rfl rfl rfl rfl (by kernel_rfl) Try.func12 (by kernel_rfl)
    (of_decide_eq_true (by kernel_rfl)) (by unfold Func.isWrapper; first | (rw [if_pos (by decide +kernel)]; kernel_rfl) | (rw [if_neg (by decide +kernel)]; exact ⟨rfl, rfl⟩))
    (fun os started H enc _ => lifted os started H enc)
theorem proved : Rows.WholeMendsSaid := over
#print axioms proved
end Go.Proofs.Ytbaljbadlfopgaa.wholeMends
namespace Go.Proofs.Ytbaljbadlfopgaa
theorem wholeMends_holds : Rows.WholeMendsSaid := wholeMends.proved
end Go.Proofs.Ytbaljbadlfopgaa
