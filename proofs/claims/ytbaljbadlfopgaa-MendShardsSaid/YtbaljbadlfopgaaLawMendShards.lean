import Derived.Test.YtbaljbadlfopgaaRows
import Derived.Test.YtbaljbadlfopgaaSRZ6Q
import Derived.Test.YtbaljbadlfopgaaFwOQ
import Derived.WalkKit
import Derived.ProofKit
import Derived.OpenShut
import Derived.ShutString
import Derived.ChangeOld
import Derived.Below
import Derived.SizedLaws
import Derived.Carry
import Derived.Lib.SmallJoins
set_option linter.all false
set_option linter.unusedVariables false
namespace Go.Proofs.Ytbaljbadlfopgaa.mendShards
open Go Go.Fw Go.ChangeShapes Go.WideShapes Go.ChangeAt Go.RowKit Go.Joins Go.Proofs.Ytbaljbadlfopgaa.Fw
theorem own : ownKnob Try.prog.godebug = none := by kernel_rfl
theorem laidOut : laidOutB Try.prog = true := by kernel_rfl
set_option maxRecDepth 100000 in
set_option maxHeartbeats 2000000 in
theorem lifted (os : Os) (started : os.Started) (H : Type) (enc : TypeId × Value → H) :
    ReturnsInHanded {} Try.checked os 7 .any (Rows.mendShardsSpec.pre6 enc Try.prog Try.f7 Rows.mendShardsRow.domain false) (Rows.mendShardsSpec.post enc Try.prog Try.f7 false true false false) := by
  refine returnsInHanded_of_change_sized (C := Try.checked) own started (by kernel_rfl) Try.func7
    (ChangeSpec.witness6 (enc := enc) (C := Try.checked) false ⟨#[], #[.agg #[.int .i64 0, .int .i64 0, .int .i64 0, .slice none 0 0]], []⟩ 8 (by kernel_rfl) (by kernel_rfl) (by kernel_rfl) (by kernel_rfl)) ?_
  intro W base args ds gs before hval0 hW hcnd hsz0 _
  have hsz : (DataW.weightsEach Try.prog (Try.f7.params.toList ++ Rows.mendShardsSpec.plain.varTypes Try.prog) (ds ++ gs)).all (· ≤ reachBytes) = true := hsz0
  have hval : ∀ (j : Nat) t v, Try.f7.params[j]? = some t → args[j]? = some v → Value.okWide Try.prog W .any base t v := hval0
  have hW' := hW
  obtain ⟨p, q, hA0, hV, rfl, hfz, hnd⟩ := hW
  have hA : DataW.TrodAll enc Try.prog W 0 (fun _ => true) true Try.f7.params.toList args.toList ds p := hA0
  rw [Try.params7] at hA hval hsz
  obtain ⟨v0, vs0, d0, ds0, p0, q0, hargs, rfl, rfl, h0, r0⟩ := trodAll_cons hA
  obtain ⟨rfl, rfl, rfl⟩ := trodAll_nil r0
  obtain rfl : args = #[v0] := by cases args; simp_all
  obtain ⟨rfl, rfl⟩ := trodVars_none hV
  have k0 := h0
  have lt0 : ∀ x ∈ p0, x.block < W.heap.size := by obtain ⟨m, hm⟩ := k0; exact DataW.trod_lt m _ _ _ hm
  obtain ⟨cs0, rfl, -⟩ := okWide_struct Try.underlying48 (hval 0 48 v0 rfl rfl)
  obtain ⟨g0, a0⟩ : cs0.toList.length = 4 ∧ _ := Opn.arg (Opn.struct (m := 4) Try.underlying48 (by kernel_rfl) (OpF.cons (m := 1) rfl (by kernel_rfl) (Opn.int Try.underlying3) (OpF.cons (m := 1) rfl (by kernel_rfl) (Opn.int Try.underlying3) (OpF.cons (m := 1) rfl (by kernel_rfl) (Opn.int Try.underlying3) (OpF.cons (m := 1) rfl (by kernel_rfl) (Opn.slice (α := Hd) (B := 24) Try.underlying46 (by kernel_rfl) (by kernel_rfl) (Opn.hd (Opn.slice (α := (El 8)) (B := 1) Try.underlying25 (by kernel_rfl) (by kernel_rfl) (Opn.el8 Try.underlying5)))) OpF.nil))))) h0 (weights_at hsz (j := 0) rfl rfl)
  simp only [Value.cells] at a0
  generalize hcs0 : cs0.toList = c0 at a0 g0
  obtain rfl := arr_of hcs0
  obtain ⟨u0_0, c0_0, rfl, y0_0, a0_0⟩ := RF.split a0 RI.one
  obtain ⟨n0_0, e, w0_0⟩ := y0_0
  obtain rfl : u0_0 = .int .i64 n0_0 := by simpa using e
  obtain ⟨u0_1, c0_1, rfl, y0_1, a0_1⟩ := RF.split a0_0 RI.one
  obtain ⟨n0_1, e, w0_1⟩ := y0_1
  obtain rfl : u0_1 = .int .i64 n0_1 := by simpa using e
  obtain ⟨u0_2, c0_2, rfl, y0_2, a0_2⟩ := RF.split a0_1 RI.one
  obtain ⟨n0_2, e, w0_2⟩ := y0_2
  obtain rfl : u0_2 = .int .i64 n0_2 := by simpa using e
  obtain ⟨u0_3, c0_3, rfl, y0_3, a0_3⟩ := RF.split a0_2 RS.one
  obtain ⟨s0_3, l0_3, e, h0_3, m0_3, q0_3⟩ := y0_3
  obtain rfl : s0_3 = u0_3 := by simpa using e.symm
  obtain rfl : c0_3 = [] := List.eq_nil_of_length_eq_zero (by simpa using g0)
  clear hA0 hval0 hsz0 hsz
  have body : CallV Try.prog 7 [.agg #[.int .i64 n0_0, .int .i64 n0_1, .int .i64 n0_2, s0_3]] W fun v w' => v = .bool true ∧ Below W.heap.size W w' := by
    obtain ⟨RR, hRR⟩ := rows_of q0_3
    exact culletlaw19_MendShards_spec W _ _ _ _ _ RR h0_3 (fun j hj => (hRR j hj).1) (fun j hj => by have := (hRR j hj).2; omega) (by omega)
  refine body.2.mono fun e W' hr => ?_
  obtain ⟨v, rfl, rfl, bel⟩ := hr
  exact ⟨_, rfl, _, _, _, [], _, [], hW', trodAll_mk1 (shut_bool Try.underlying4 _), (trodAll_cons_mk (Below.trod laidOut (by kernel_rfl) (of_decide_eq_true (by kernel_rfl)) k0 bel lt0) trodAll_mk0), rfl, bel.frame _, fun h => by cases h⟩
theorem over : Rows.mendShardsRow.holds Try.pinned (OpenSpec.ofChange Rows.mendShardsSpec) :=
  OpenClaim.holds_of_wide 7 Try.f7 rfl rfl rfl rfl rfl rfl rfl ⟨rfl, rfl, rfl, rfl, rfl⟩ rfl rfl rfl rfl rfl (by kernel_rfl) Try.func7 (by kernel_rfl)
    (of_decide_eq_true (by kernel_rfl)) (by unfold Func.isWrapper; first | (rw [if_pos (by decide +kernel)]; kernel_rfl) | (rw [if_neg (by decide +kernel)]; exact ⟨rfl, rfl⟩))
    (fun os started H enc _ => lifted os started H enc)
theorem proved : Rows.MendShardsSaid := over
#print axioms proved
end Go.Proofs.Ytbaljbadlfopgaa.mendShards
namespace Go.Proofs.Ytbaljbadlfopgaa
theorem mendShards_holds : Rows.MendShardsSaid := mendShards.proved
end Go.Proofs.Ytbaljbadlfopgaa
