import Derived.Test.YtcdagkcchfibjaaRows
import Derived.Test.YtcdagkcchfibjaaSSNbNil
import Derived.Test.YtcdagkcchfibjaaFwONil
import Derived.WalkKit
import Derived.ProofKit
import Derived.OpenShut
import Derived.ShutString
import Derived.ChangeOld
import Derived.Below
import Derived.SizedLaws
import Derived.Deep.CondSized
import Derived.JoinedCond
import Derived.Carry
import Derived.Lib.SmallJoins
set_option linter.all false
set_option linter.unusedVariables false
namespace Go.Proofs.Ytcdagkcchfibjaa.polysNil
open Go Go.Fw Go.ChangeShapes Go.WideShapes Go.ChangeAt Go.RowKit Go.Joins Go.Proofs.Ytcdagkcchfibjaa.Fw
theorem own : ownKnob Try.prog.godebug = none := by kernel_rfl
theorem laidOut : laidOutB Try.prog = true := by kernel_rfl
set_option maxRecDepth 100000 in
set_option maxHeartbeats 2000000 in
theorem lifted (os : Os) (started : os.Started) (H : Type) (enc : TypeId × Value → H) (F : Stop.Interp) :
    ReturnsInHanded {} Try.checked os 10 .any ((Rows.OpenSpec.upto Rows.polysNilSpec).pre6 enc Try.prog Try.f10 Rows.polysNilUptoRow.domain false) (((Rows.OpenSpec.upto Rows.polysNilSpec).at F).post enc Try.prog Try.f10 false true false false) := by
  refine returnsInHanded_of_cond_sized (C := Try.checked) (s := Rows.OpenSpec.upto Rows.polysNilSpec) (k := Rows.uptoSmall) rfl own started (by kernel_rfl) Try.func10
    (OpenSpec.witness (enc := enc) (C := Try.checked) (s := Rows.OpenSpec.upto Rows.polysNilSpec) (k := Rows.uptoSmall) rfl false ⟨#[], #[.slice none 0 0, .slice none 0 0, .int .i64 0], []⟩ 8 (by kernel_rfl) (by kernel_rfl) (by kernel_rfl) (x := ([.nil, .nil, .lit (.int .i64 0)], [], [])) (by kernel_rfl) rfl (by kernel_rfl)) ?_
  intro W base args ds gs before hval0 hW hcnd hk0 hsz0 _
  have hsz : (DataW.weightsEach Try.prog (Try.f10.params.toList ++ Rows.polysNilSpec.plain.varTypes Try.prog) (ds ++ gs)).all (· ≤ reachBytes) = true := hsz0
  have hval : ∀ (j : Nat) t v, Try.f10.params[j]? = some t → args[j]? = some v → Value.okWide Try.prog W .any base t v := hval0
  have hW' := hW
  obtain ⟨p, q, hA0, hV, rfl, hfz, hnd⟩ := hW
  have hA : DataW.TrodAll enc Try.prog W 0 (fun _ => true) true Try.f10.params.toList args.toList ds p := hA0
  rw [Try.params10] at hA hval hsz
  obtain ⟨v0, vs0, d0, ds0, p0, q0, hargs, rfl, rfl, h0, r0⟩ := trodAll_cons hA
  obtain ⟨v1, vs1, d1, ds1, p1, q1, rfl, rfl, rfl, h1, r1⟩ := trodAll_cons r0
  obtain ⟨v2, vs2, d2, ds2, p2, q2, rfl, rfl, rfl, h2, r2⟩ := trodAll_cons r1
  obtain ⟨rfl, rfl, rfl⟩ := trodAll_nil r2
  obtain rfl : args = #[v0, v1, v2] := by cases args; simp_all
  obtain ⟨rfl, rfl⟩ := trodVars_none hV
  have k0 := h0
  have lt0 : ∀ x ∈ p0, x.block < W.heap.size := by obtain ⟨m, hm⟩ := k0; exact DataW.trod_lt m _ _ _ hm
  obtain ⟨A0, len0, cap0, rfl⟩ := okWide_slice Try.underlying27 (hval 0 27 v0 rfl rfl)
  have a0 := Opn.arg (Opn.slice (α := (El 16)) (B := 2) Try.underlying27 (by kernel_rfl) (by kernel_rfl) (Opn.el16 Try.underlying28)) h0 (weights_at hsz (j := 0) rfl rfl)
  simp only [Value.cells] at a0
  obtain ⟨s0, l0, e, h0, m0, q0⟩ := a0
  obtain rfl : s0 = .slice A0 len0 cap0 := by simpa using e.symm
  have k1 := h1
  have lt1 : ∀ x ∈ p1, x.block < W.heap.size := by obtain ⟨m, hm⟩ := k1; exact DataW.trod_lt m _ _ _ hm
  obtain ⟨A1, len1, cap1, rfl⟩ := okWide_slice Try.underlying27 (hval 1 27 v1 rfl rfl)
  have a1 := Opn.arg (Opn.slice (α := (El 16)) (B := 2) Try.underlying27 (by kernel_rfl) (by kernel_rfl) (Opn.el16 Try.underlying28)) h1 (weights_at hsz (j := 1) rfl rfl)
  simp only [Value.cells] at a1
  obtain ⟨s1, l1, e, h1, m1, q1⟩ := a1
  obtain rfl : s1 = .slice A1 len1 cap1 := by simpa using e.symm
  have k2 := h2
  have lt2 : ∀ x ∈ p2, x.block < W.heap.size := by obtain ⟨m, hm⟩ := k2; exact DataW.trod_lt m _ _ _ hm
  obtain ⟨z2, rfl⟩ := okWide_int Try.underlying3 (hval 2 3 v2 rfl rfl)
  have a2 := Opn.arg (Opn.int Try.underlying3) h2 (weights_at hsz (j := 2) rfl rfl)
  simp only [Value.cells] at a2
  obtain ⟨n2, e, w2⟩ := a2
  obtain rfl : n2 = z2 := by simpa using e.symm
  clear hA0 hval0 hsz0 hsz
  have body : CallV Try.prog 10 [.slice A0 len0 cap0, .slice A1 len1 cap1, .int .i64 n2] W fun v w' => v = .bool true ∧ Below W.heap.size W w' := by
    exact culletlaw04_PolysNil_spec W _ _ l0 l1 _ h0 h1 (by omega) (by omega)
  refine body.2.mono fun e W' hr => ?_
  obtain ⟨v, rfl, rfl, bel⟩ := hr
  exact ⟨_, rfl, _, _, _, [], _, [], hW', trodAll_mk1 (shut_bool Try.underlying4 _), (trodAll_cons_mk (Below.trod laidOut (by kernel_rfl) (of_decide_eq_true (by kernel_rfl)) k0 bel lt0) (trodAll_cons_mk (Below.trod laidOut (by kernel_rfl) (of_decide_eq_true (by kernel_rfl)) k1 bel lt1) (trodAll_cons_mk (Below.trod laidOut (by kernel_rfl) (of_decide_eq_true (by kernel_rfl)) k2 bel lt2) trodAll_mk0))), rfl, bel.frame _, fun h => by cases h⟩
theorem over : Rows.polysNilUptoRow.holds Try.pinned (Rows.OpenSpec.upto Rows.polysNilSpec) :=
  OpenClaim.holds_of_cond 10 Try.f10 rfl rfl rfl rfl rfl rfl rfl ⟨rfl, rfl, rfl, rfl, rfl⟩ rfl rfl rfl rfl rfl (by kernel_rfl) Try.func10 (by kernel_rfl)
    (of_decide_eq_true (by kernel_rfl)) (by unfold Func.isWrapper; first | (rw [if_pos (by decide +kernel)]; kernel_rfl) | (rw [if_neg (by decide +kernel)]; exact ⟨rfl, rfl⟩))
    (fun os started H enc _ F => lifted os started H enc F)
theorem proved : Rows.PolysNilUptoSaid := over
#print axioms proved
end Go.Proofs.Ytcdagkcchfibjaa.polysNil
namespace Go.Proofs.Ytcdagkcchfibjaa
theorem polysNilUpto_holds : Rows.PolysNilUptoSaid := polysNil.proved
end Go.Proofs.Ytcdagkcchfibjaa
