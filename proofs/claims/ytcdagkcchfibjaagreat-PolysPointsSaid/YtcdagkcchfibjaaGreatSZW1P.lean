import Derived.Test.YtcdagkcchfibjaaGreatGfXP
import Derived.Test.YtcdagkcchfibjaaGreatGfSP
import Derived.Test.YtcdagkcchfibjaaGreatGfEP
import Derived.Test.YtcdagkcchfibjaaGreatProg
import Derived.Test.YtcdagkcchfibjaaGreatFwTP
import Derived.Test.YtcdagkcchfibjaaGreatFwXP
set_option linter.all false
/- Lagrange's form: the product of all X + x but one; two interpolations of the same values are one. -/
set_option linter.unusedVariables false
set_option linter.unusedSimpArgs false
namespace Go.Fw
open Go
section
variable {n : Nat} [F : Fd n]
theorem nodup_of {l : List (El n)} (hnd : ∀ a b, a < l.length → b < l.length → l.getD a 0 = l.getD b 0 → a = b) : l.Nodup := by
  refine List.pairwise_iff_getElem.2 fun a b ha hb hab e => ?_
  have := hnd a b ha hb (by rw [List.getD_eq_getElem?_getD, List.getD_eq_getElem?_getD, List.getElem?_eq_getElem ha, List.getElem?_eq_getElem hb]; exact e)
  omega
theorem mem_getD {l : List (El n)} {z : El n} (h : z ∈ l) : ∃ j, j < l.length ∧ l.getD j 0 = z := by
  obtain ⟨j, hj, e⟩ := List.getElem_of_mem h
  exact ⟨j, hj, by rw [List.getD_eq_getElem?_getD, List.getElem?_eq_getElem hj]; exact e⟩
/-- What the division of the whole by X + x leaves. -/
theorem oth {l q m : List (El n)} {i : Nat} (hi : i < l.length) (hnd : ∀ a b, a < l.length → b < l.length → l.getD a 0 = l.getD b 0 → a = b) (tq : tr q = q) (tm : tr m = m) (he : vps l = co q * lin l[i] + co m) (hm : m.length < 2) :
    q.length = l.length ∧ evl q l[i] ≠ 0 ∧ ∀ j, j < l.length → j ≠ i → evl q (l.getD j 0) = 0 := by
  have hQ : co (ofc (l.length + 1) (vps l)) = vps l := ofc_co (vps_dg l)
  have hz : ∀ z, z ∈ l → evn (vps l) z (l.length + 1) = 0 := fun z hz => (ev_vps_zero z l).2 hz
  have hQe : ∀ z, evl (ofc (l.length + 1) (vps l)) z = evn (vps l) z (l.length + 1) := fun z => by rw [evl_co, hQ, ofc_len]
  have hm0 : m = [] := by
    have h1 := root_rem (Q := ofc (l.length + 1) (vps l)) (q := q) (m := m) (x := l[i]) (by rw [hQ, he])
    rw [hQe, hz _ (List.getElem_mem hi)] at h1
    rw [rem_list tm hm l[i], if_pos h1.symm]
  subst hm0
  have he2 : vps l = lin l[i] * co q := by rw [he, co_nil, Ps.add_zero, Ps.mul_comm]
  have hql : q.length = l.length := by
    have tQ : tr (ofc (l.length + 1) (vps l)) = ofc (l.length + 1) (vps l) := by
      have h2 : tln (ofc (l.length + 1) (vps l)) = l.length + 1 := tln_of (by rw [hQ]; exact vps_dg l) (Or.inr (by rw [hQ, Nat.add_sub_cancel, vps_top]; exact El.one_ne))
      unfold tr
      rw [h2]
      exact List.take_of_length_le (by rw [ofc_len]; exact Nat.le_refl _)
    have tb : tr [l[i], (1 : El n)] = [l[i], 1] := by
      unfold tr
      rw [tln_lin]; rfl
    have := quo_len (a := ofc (l.length + 1) (vps l)) (q := q) (b := [l[i], 1]) (m := []) tQ tq tb (by rw [hQ, co_lin]; exact he) (by simp) (by rw [ofc_len]; simp; omega)
    rw [ofc_len] at this
    simp at this
    omega
  have hev : ∀ z, evn (vps l) z (l.length + 1) = (l[i] + z) * evl q z := fun z => by
    rw [he2, evl_co, hql, ev_lin_mul _ _ (by rw [← hql]; exact co_dg q)]
  have gi : l.getD i 0 = l[i] := by rw [List.getD_eq_getElem?_getD, List.getElem?_eq_getElem hi]; rfl
  have hoth : ∀ j, j < l.length → j ≠ i → evl q (l.getD j 0) = 0 := fun j hj hji => by
    have hmem : l.getD j 0 ∈ l := by rw [List.getD_eq_getElem?_getD, List.getElem?_eq_getElem hj]; exact List.getElem_mem hj
    have h3 := hev (l.getD j 0)
    rw [hz _ hmem] at h3
    have hne : l[i] + l.getD j 0 ≠ 0 := fun e => by
      have h4 := El.eq_of_add0 e
      rw [← gi] at h4
      exact hji (hnd j i hj hi h4.symm)
    have h5 : (l[i] + l.getD j 0).inv * ((l[i] + l.getD j 0) * evl q (l.getD j 0)) = 0 := by rw [← h3, El.mul_zero]
    rwa [← El.mul_assoc, El.mul_comm (l[i] + l.getD j 0).inv, El.mul_inv _ hne, El.one_mul] at h5
  refine ⟨hql, fun h0 => ?_, hoth⟩
  have h6 : co q = 0 := roots_zero l q (nodup_of hnd) (by omega) fun z hz => by
    obtain ⟨j, hj, rfl⟩ := mem_getD hz
    by_cases hji : j = i
    · subst hji; rw [gi]; exact h0
    · exact hoth j hj hji
  have h7 := vps_top l
  rw [he2, h6, Ps.mul_zero] at h7
  exact El.one_ne h7.symm
/-- One summand more. -/
theorem lag_step {l ls ms q : List (El n)} {i : Nat} {c y : El n} (hi : i < l.length) (hq : q.length = l.length) (h0 : ∀ j, j < l.length → j ≠ i → evl q (l.getD j 0) = 0) (hcy : c * evl q (l.getD i 0) = y)
    (hls : ls.length = l.length) (hms : ms.length = l.length) (hc : ∀ k, k < l.length → (co ms).c k = (co ls).c k + c * (co q).c k) {Y : Nat → El n} (hy : Y i = y) (hv : ∀ j, j < l.length → evl ls (l.getD j 0) = if j < i then Y j else 0) :
    ∀ j, j < l.length → evl ms (l.getD j 0) = if j < i + 1 then Y j else 0 := by
  intro j hj
  have e : co ms = co ls + Ps.C c * co q := ps_eq l.length (by rw [← hms]; exact co_dg ms) (Dg.add (by rw [← hls]; exact co_dg ls) (Cm_dg _ (by rw [← hq]; exact co_dg q))) fun k hk => by rw [hc k hk, Ps.add_c, Ps.C_mul]
  have h1 := hv j hj
  rw [evl_co, hls] at h1
  have h2 : evn (co q) (l.getD j 0) l.length = evl q (l.getD j 0) := by rw [evl_co, hq]
  rw [evl_co, hms, e, evn_add, ev_Cm, h1, h2]
  by_cases hji : j = i
  · subst hji
    rw [hcy, if_neg (by omega), El.zero_add, if_pos (by omega), hy]
  · rw [h0 j hj hji, El.mul_zero, El.add_zero]
    by_cases h3 : j < i
    · rw [if_pos h3, if_pos (by omega)]
    · rw [if_neg h3, if_neg (by omega)]
theorem lag_skip {l ls : List (El n)} {i : Nat} {Y : Nat → El n} (hy : Y i = 0) (hv : ∀ j, j < l.length → evl ls (l.getD j 0) = if j < i then Y j else 0) :
    ∀ j, j < l.length → evl ls (l.getD j 0) = if j < i + 1 then Y j else 0 := by
  intro j hj
  rw [hv j hj]
  by_cases hji : j = i
  · subst hji
    rw [if_neg (by omega), if_pos (by omega), hy]
  · by_cases h3 : j < i
    · rw [if_pos h3, if_pos (by omega)]
    · rw [if_neg h3, if_neg (by omega)]
/-- Newton's and Lagrange's answers are one. -/
theorem int_uniq {m m' : List (El n)} {X Y : Nat → El n} {N : Nat} (tm : tr m = m) (tm' : tr m' = m') (hm : co m = nw X Y 0 N) (hl : m'.length ≤ N) (hev : ∀ j, j < N → evl m' (X j) = Y j) (hnd : ∀ a b, a < N → b < N → X a = X b → a = b) : m = m' := by
  refine tr_inj tm tm' ?_
  refine Ps.eq_of_add (zero_of X 0 N ((by rw [hm]; exact nw_dg X Y 0 N : Dg (co m) N).add ((co_dg m').mono hl)) (fun a b ha hb e => hnd a b ha hb (by simpa using e)) fun j hj => ?_)
  rw [evn_add, hm, nw_ev X Y N hnd N 0 (by omega) j hj, Nat.zero_add]
  have h1 := hev j hj
  rw [evl_co] at h1
  rw [evn_eq ((co_dg m').mono hl) (co_dg m'), h1, El.add_self]
end
end Go.Fw

set_option linter.unusedVariables false
set_option linter.unusedSimpArgs false
set_option maxRecDepth 100000
set_option maxHeartbeats 1000000
namespace Go.Proofs.YtcdagkcchfibjaaGreat.Fw
open Go Go.Fw Go.Proofs
attribute [local irreducible] stepI

end Go.Proofs.YtcdagkcchfibjaaGreat.Fw
namespace Go.Proofs.YtcdagkcchfibjaaGreat.Fw
open Go Go.Fw
theorem rep_facts (n : Nat) : ∃ S0 : List Bool, S0.length = n ∧ (∀ v, S0.getD v false = false) ∧ List.replicate n (Value.bool false) = S0.map Cell.v := by
  refine ⟨List.replicate n false, List.length_replicate, fun v => ?_, by rw [List.map_replicate]; rfl⟩
  rw [List.getD_eq_getElem?_getD, List.getElem?_replicate]
  split <;> rfl
end Go.Proofs.YtcdagkcchfibjaaGreat.Fw

set_option linter.unusedVariables false
set_option linter.unusedSimpArgs false
set_option maxRecDepth 100000
set_option maxHeartbeats 1000000
namespace Go.Proofs.YtcdagkcchfibjaaGreat.Fw
open Go Go.Fw Go.Proofs
attribute [local irreducible] stepI
def c_culletref04_Interpolate : C := .seq (.ops [⟨0, (some 6), none, .mov (.c (.slice none 0 0)), []⟩, ⟨1, (some 7), none, .mov (.c (.int .i64 0)), []⟩]) (.seq (.ops [⟨0, (some 18), none, .mov (.t 1), []⟩, ⟨1, (some 19), none, .len (.t 18), []⟩, ⟨2, (some 8), none, .mov (.t 19), []⟩]) (.seq (.seq (.ops [⟨0, (some 20), none, .mov (.t 8), []⟩, ⟨1, (some 21), none, .bin .gtr (.t 20) (.c (.int .i64 1024)), []⟩, ⟨2, (some 22), none, .mov (.t 21), []⟩, ⟨3, (some 23), (some (22, false)), .mov (.t 2), []⟩, ⟨4, (some 24), (some (22, false)), .len (.t 23), []⟩, ⟨5, (some 25), (some (22, false)), .bin .gtr (.t 24) (.c (.int .i64 1024)), []⟩, ⟨6, (some 26), none, .pick (.t 22) (.c (.bool true)) (.t 25), []⟩]) (.ite (.t 26) (.seq (.ops [⟨0, (some 6), none, .mov (.c (.slice none 0 0)), []⟩, ⟨1, (some 7), none, .mov (.c (.int .i64 5)), []⟩]) .ret) .skip)) (.seq (.seq (.ops [⟨0, (some 27), none, .mov (.t 8), []⟩, ⟨1, (some 28), none, .mov (.t 2), []⟩, ⟨2, (some 29), none, .len (.t 28), []⟩, ⟨3, (some 30), none, .bin .neq (.t 27) (.t 29), []⟩]) (.ite (.t 30) (.seq (.ops [⟨0, (some 6), none, .mov (.c (.slice none 0 0)), []⟩, ⟨1, (some 7), none, .mov (.c (.int .i64 6)), []⟩]) .ret) .skip)) (.seq (.ops [⟨0, (some 9), none, .alloc 97 (List.replicate 65536 (.bool false)), []⟩]) (.seq (.seq (.ops [⟨0, (some 10), none, .mov (.c (.int .i64 0)), []⟩]) (.block 0 (.loop (.seq (.seq (.ops [⟨0, (some 31), none, .mov (.t 10), []⟩, ⟨1, (some 32), none, .mov (.t 8), []⟩, ⟨2, (some 33), none, .bin .lss (.t 31) (.t 32), []⟩]) (.ite (.t 33) .skip (.exit 0))) (.seq (.block 1 (.seq (.seq (.ops [⟨0, (some 36), none, .mov (.t 1), []⟩, ⟨1, (some 37), none, .mov (.t 10), []⟩, ⟨2, (some 38), none, .ixs 1 (.t 36) (.t 37), []⟩, ⟨3, (some 39), none, .ld (.t 38), []⟩, ⟨4, (some 40), none, .ixa 65536 1 (.t 9) (.t 39), []⟩, ⟨5, (some 41), none, .ld (.t 40), []⟩]) (.ite (.t 41) (.seq (.ops [⟨0, (some 6), none, .mov (.c (.slice none 0 0)), []⟩, ⟨1, (some 7), none, .mov (.c (.int .i64 41)), []⟩]) .ret) .skip)) (.ops [⟨0, (some 42), none, .mov (.t 1), []⟩, ⟨1, (some 43), none, .mov (.t 10), []⟩, ⟨2, (some 44), none, .ixs 1 (.t 42) (.t 43), []⟩, ⟨3, (some 45), none, .ld (.t 44), []⟩, ⟨4, (some 46), none, .ixa 65536 1 (.t 9) (.t 45), []⟩, ⟨5, none, none, .st (.t 46) (.c (.bool true)), []⟩]))) (.ops [⟨0, (some 34), none, .mov (.t 10), []⟩, ⟨1, (some 35), none, .bin .add (.t 34) (.c (.int .i64 1)), []⟩, ⟨2, (some 10), none, .mov (.t 35), []⟩])))))) (.seq (.ops [⟨0, (some 47), none, .mov (.t 0), []⟩, ⟨1, (some 48), none, .mov (.t 1), []⟩, ⟨2, (some 49), none, .call (.c (.func (.func 79) #[] #[])) [.t 47, .t 48], []⟩, ⟨3, (some 11), none, .mov (.t 49), []⟩]) (.seq (.ops [⟨0, (some 50), none, .mov (.t 8), []⟩, ⟨1, (some 51), none, .mks 32 2 [.int .u16 0] (.t 50) (.t 50), []⟩, ⟨2, (some 12), none, .mov (.t 51), []⟩]) (.seq (.seq (.ops [⟨0, (some 13), none, .mov (.c (.int .i64 0)), []⟩]) (.block 2 (.loop (.seq (.seq (.ops [⟨0, (some 52), none, .mov (.t 13), []⟩, ⟨1, (some 53), none, .mov (.t 8), []⟩, ⟨2, (some 54), none, .bin .lss (.t 52) (.t 53), []⟩]) (.ite (.t 54) .skip (.exit 2))) (.seq (.block 3 (.seq (.seq (.ops [⟨0, (some 57), none, .mov (.t 2), []⟩, ⟨1, (some 58), none, .mov (.t 13), []⟩, ⟨2, (some 59), none, .ixs 1 (.t 57) (.t 58), []⟩, ⟨3, (some 60), none, .ld (.t 59), []⟩, ⟨4, (some 61), none, .bin .eql (.t 60) (.c (.int .u16 0)), []⟩]) (.ite (.t 61) (.exit 3) .skip)) (.seq (.ops [⟨0, (some 63), none, .mov (.t 0), []⟩, ⟨1, (some 64), none, .mov (.t 11), []⟩, ⟨2, (some 65), none, .mov (.t 1), []⟩, ⟨3, (some 66), none, .mov (.t 13), []⟩, ⟨4, (some 67), none, .ixs 1 (.t 65) (.t 66), []⟩, ⟨5, (some 68), none, .ld (.t 67), []⟩, ⟨6, (some 69), none, .bsl 32 2 [.int .u16 0] [(0, (1, .t 68)), (1, (1, .c (.int .u16 1)))], []⟩, ⟨7, (some 70), none, .call (.c (.func (.func 73) #[] #[])) [.t 63, .t 64, .t 69], []⟩, ⟨8, (some 62), none, .mov (.t 70), []⟩, ⟨9, (some 71), none, .ext (.t 62) 0, []⟩, ⟨10, (some 72), none, .ext (.t 62) 1, []⟩, ⟨11, (some 14), none, .mov (.t 71), []⟩, ⟨12, (some 15), none, .mov (.t 72), []⟩]) (.seq (.dops [⟨0, (some 73), none, .mov (.t 0), []⟩, ⟨1, (some 74), none, .mov (.t 2), []⟩, ⟨2, (some 75), none, .mov (.t 13), []⟩, ⟨3, (some 76), none, .ixs 1 (.t 74) (.t 75), []⟩, ⟨4, (some 77), none, .ld (.t 76), []⟩, ⟨5, (some 78), none, .mov (.t 0), []⟩, ⟨6, (some 79), none, .mov (.t 0), []⟩, ⟨7, (some 80), none, .mov (.t 14), []⟩, ⟨8, (some 81), none, .mov (.t 1), []⟩, ⟨9, (some 82), none, .mov (.t 13), []⟩, ⟨10, (some 83), none, .ixs 1 (.t 81) (.t 82), []⟩, ⟨11, (some 84), none, .ld (.t 83), []⟩, ⟨12, (some 85), none, .call (.c (.func (.func 40) #[] #[])) [.t 79, .t 80, .t 84], [4]⟩, ⟨13, (some 86), none, .call (.c (.func (.func 74) #[] #[])) [.t 78, .t 85], [4]⟩, ⟨14, (some 87), none, .call (.c (.func (.func 67) #[] #[])) [.t 73, .t 77, .t 86], []⟩, ⟨15, (some 16), none, .mov (.t 87), []⟩]) (.seq (.ops [⟨0, (some 17), none, .mov (.c (.int .i64 0)), []⟩]) (.block 4 (.loop (.seq (.seq (.ops [⟨0, (some 88), none, .mov (.t 17), []⟩, ⟨1, (some 89), none, .mov (.t 8), []⟩, ⟨2, (some 90), none, .bin .lss (.t 88) (.t 89), []⟩]) (.ite (.t 90) .skip (.exit 4))) (.seq (.block 5 (.dops [⟨0, (some 93), none, .mov (.t 12), []⟩, ⟨1, (some 94), none, .mov (.t 17), []⟩, ⟨2, (some 95), none, .mov (.t 12), []⟩, ⟨3, (some 96), none, .mov (.t 17), []⟩, ⟨4, (some 97), none, .ixs 1 (.t 95) (.t 96), []⟩, ⟨5, (some 98), none, .ld (.t 97), []⟩, ⟨6, (some 99), none, .mov (.t 0), []⟩, ⟨7, (some 100), none, .mov (.t 16), []⟩, ⟨8, (some 101), none, .mov (.t 14), []⟩, ⟨9, (some 102), none, .mov (.t 17), []⟩, ⟨10, (some 103), none, .ixs 1 (.t 101) (.t 102), []⟩, ⟨11, (some 104), none, .ld (.t 103), []⟩, ⟨12, (some 105), none, .call (.c (.func (.func 67) #[] #[])) [.t 99, .t 100, .t 104], [5]⟩, ⟨13, (some 106), none, .bin .xor (.t 98) (.t 105), []⟩, ⟨14, (some 107), none, .ixs 1 (.t 93) (.t 94), []⟩, ⟨15, none, none, .st (.t 107) (.t 106), []⟩])) (.ops [⟨0, (some 91), none, .mov (.t 17), []⟩, ⟨1, (some 92), none, .bin .add (.t 91) (.c (.int .i64 1)), []⟩, ⟨2, (some 17), none, .mov (.t 92), []⟩])))))))))) (.ops [⟨0, (some 55), none, .mov (.t 13), []⟩, ⟨1, (some 56), none, .bin .add (.t 55) (.c (.int .i64 1)), []⟩, ⟨2, (some 13), none, .mov (.t 56), []⟩])))))) (.seq (.ops [⟨0, (some 108), none, .mov (.t 12), []⟩, ⟨1, (some 109), none, .call (.c (.func (.func 34) #[] #[])) [.t 108], []⟩, ⟨2, (some 6), none, .mov (.t 109), []⟩, ⟨3, (some 7), none, .mov (.c (.int .i64 0)), []⟩]) .ret)))))))))
attribute [irreducible] c_culletref04_Interpolate
theorem run_culletref04_Interpolate {args : List Value} {w : World} {K : Value → World → Prop} (hn : args.length ≤ 110) (h : WP Tryz.prog c_culletref04_Interpolate (endQ [.t 6, .t 7] K) (initT args) w) : CallV Tryz.prog 51 args w K :=
  call_of follows Tryz.func51 (by kernel_rfl) (by kernel_rfl) hn h
end Go.Proofs.YtcdagkcchfibjaaGreat.Fw
namespace Go.Proofs.YtcdagkcchfibjaaGreat.Fw
open Go Go.Fw
theorem culletref04_Interpolate_w_spec (w : World) (s1 s2 : Value) (l1 l2 : List (El 16)) (h1 : Sl w s1 (l1.map em16)) (h2 : Sl w s2 (l2.map em16)) (hb1 : l1.length ≤ 70368744175616) (hb2 : l2.length ≤ 70368744175616) :
    CallV Tryz.prog 51 [.bool true, s1, s2] w fun v w' => RowKit.Below w.heap.size w w' ∧
      ((l1.length ≤ 1024 ∧ l2.length ≤ 1024 ∧ l2.length = l1.length ∧ (∀ a b, a < l1.length → b < l1.length → l1.getD a 0 = l1.getD b 0 → a = b) ∧ ∃ (s : Value) (m : List (El 16)), v = .tuple #[s, .int .i64 0] ∧ Ow w.heap.size w' s (m.map em16) ∧ tr m = m ∧ m.length ≤ l1.length ∧ ∀ j, j < l1.length → evl m (l1.getD j 0) = l2.getD j 0) ∨
       (l1.length ≤ 1024 ∧ l2.length ≤ 1024 ∧ l2.length ≠ l1.length ∧ v = .tuple #[.slice none 0 0, .int .i64 6]) ∨
       (l1.length ≤ 1024 ∧ l2.length ≤ 1024 ∧ l2.length = l1.length ∧ ¬ (∀ a b, a < l1.length → b < l1.length → l1.getD a 0 = l1.getD b 0 → a = b) ∧ v = .tuple #[.slice none 0 0, .int .i64 41]) ∨
       (¬ (l1.length ≤ 1024 ∧ l2.length ≤ 1024) ∧ v = .tuple #[.slice none 0 0, .int .i64 5])) := by
  have hm1 : (l1.map em16).length = l1.length := List.length_map ..
  have hm2 : (l2.map em16).length = l2.length := List.length_map ..
  obtain ⟨S0, hS0l, hS0z, hzS⟩ := rep_facts 65536
  refine run_culletref04_Interpolate (by simp) ?_
  unfold c_culletref04_Interpolate
  generalize hZ : List.replicate 65536 (Value.bool false) = z at hzS
  clear hZ
  subst hzS
  simp only [WS, List.getElem_cons_zero, List.getElem_cons_succ, Option.isNone_some, Option.isNone_none, List.getD_cons_zero, List.getD_cons_succ, I.at, atL, atO, atP, evp, evs, retV, ↓reduceIte, Nat.reduceEqDiff, reduceCtorEq]
  by_cases z1 : l1.length ≤ 1024
  rotate_left
  · simp (maxSteps := 1000000) (disch := omega) only [WS, List.getElem_cons_zero, List.getElem_cons_succ, Option.isNone_some, Option.isNone_none, List.getD_cons_zero, List.getD_cons_succ, I.at, atL, atO, atP, evp, evs, retV, ↓reduceIte, Nat.reduceEqDiff, reduceCtorEq, AS, h1.Xlen, hm1]
    exact ⟨RowKit.Below.refl _ _, Or.inr (Or.inr (Or.inr (fun e => z1 e.1)))⟩
  by_cases z2 : l2.length ≤ 1024
  rotate_left
  · simp (maxSteps := 1000000) (disch := omega) only [WS, List.getElem_cons_zero, List.getElem_cons_succ, Option.isNone_some, Option.isNone_none, List.getD_cons_zero, List.getD_cons_succ, I.at, atL, atO, atP, evp, evs, retV, ↓reduceIte, Nat.reduceEqDiff, reduceCtorEq, AS, h1.Xlen, hm1, h2.Xlen, hm2]
    exact ⟨RowKit.Below.refl _ _, Or.inr (Or.inr (Or.inr (fun e => z2 e.2)))⟩
  by_cases hlen : l2.length = l1.length
  rotate_left
  · simp (maxSteps := 1000000) (disch := omega) only [WS, List.getElem_cons_zero, List.getElem_cons_succ, Option.isNone_some, Option.isNone_none, List.getD_cons_zero, List.getD_cons_succ, I.at, atL, atO, atP, evp, evs, retV, ↓reduceIte, Nat.reduceEqDiff, reduceCtorEq, AS, h1.Xlen, hm1, h2.Xlen, hm2]
    exact ⟨RowKit.Below.refl _ _, Or.inr (Or.inl ⟨z1, z2, hlen⟩)⟩
  simp (maxSteps := 1000000) (disch := omega) only [WS, List.getElem_cons_zero, List.getElem_cons_succ, Option.isNone_some, Option.isNone_none, List.getD_cons_zero, List.getD_cons_succ, I.at, atL, atO, atP, evp, evs, retV, ↓reduceIte, Nat.reduceEqDiff, reduceCtorEq, AS, h1.Xlen, hm1, h2.Xlen, hm2, hlen, show ∀ e : Int, decide (e = e) = true from fun e => decide_eq_true rfl]
  refine X_alloc fun sb w1 hr hsb hB => ?_
  simp (maxSteps := 1000000) (disch := omega) only [WS, List.getElem_cons_zero, List.getElem_cons_succ, Option.isNone_some, Option.isNone_none, List.getD_cons_zero, List.getD_cons_succ, I.at, atL, atO, atP, evp, evs, retV, ↓reduceIte, Nat.reduceEqDiff, reduceCtorEq, AS]
  refine loop_of (fun t w' => t 0 = .bool true ∧ t 1 = s1 ∧ t 2 = s2 ∧ t 8 = .int .i64 (l1.length : Int) ∧ t 9 = .pointer (some ⟨sb, 0, none⟩) ∧ RowKit.Below w.heap.size w w' ∧ ∃ (i : Nat) (S : List Bool), t 10 = .int .i64 (i : Int) ∧ i ≤ l1.length ∧ S.length = 65536 ∧ Row w' sb (S.map Cell.v) ∧ (∀ j, j < i → S.getD (em16 (l1.getD j 0)).v.toNat false = true) ∧ (∀ n : Nat, (∀ j, j < i → (em16 (l1.getD j 0)).v.toNat ≠ n) → S.getD n false = false) ∧ ∀ a b, a < i → b < i → l1.getD a 0 = l1.getD b 0 → a = b)
    (fun t _ => l1.length - (toI (t 10)).toNat) ⟨by simp only [WS, List.getElem_cons_zero, List.getElem_cons_succ, Option.isNone_some, Option.isNone_none, List.getD_cons_zero, List.getD_cons_succ, I.at, atL, atO, atP, evp, evs, retV, ↓reduceIte, Nat.reduceEqDiff, reduceCtorEq], by simp only [WS, List.getElem_cons_zero, List.getElem_cons_succ, Option.isNone_some, Option.isNone_none, List.getD_cons_zero, List.getD_cons_succ, I.at, atL, atO, atP, evp, evs, retV, ↓reduceIte, Nat.reduceEqDiff, reduceCtorEq], by simp only [WS, List.getElem_cons_zero, List.getElem_cons_succ, Option.isNone_some, Option.isNone_none, List.getD_cons_zero, List.getD_cons_succ, I.at, atL, atO, atP, evp, evs, retV, ↓reduceIte, Nat.reduceEqDiff, reduceCtorEq], by simp only [WS, List.getElem_cons_zero, List.getElem_cons_succ, Option.isNone_some, Option.isNone_none, List.getD_cons_zero, List.getD_cons_succ, I.at, atL, atO, atP, evp, evs, retV, ↓reduceIte, Nat.reduceEqDiff, reduceCtorEq], by simp only [WS, List.getElem_cons_zero, List.getElem_cons_succ, Option.isNone_some, Option.isNone_none, List.getD_cons_zero, List.getD_cons_succ, I.at, atL, atO, atP, evp, evs, retV, ↓reduceIte, Nat.reduceEqDiff, reduceCtorEq], hB, 0, S0, rfl, by omega, hS0l, hr, fun j hj => by omega, fun n _ => hS0z n, fun a b ha => by omega⟩ ?_
  clear hB hr hS0l hS0z
  rintro t w2 ⟨t0, t1, t2, t8, t9, B, i, S, t10, hi, lS, hr, hf1, hf0, hnd⟩
  by_cases hlt : i < l1.length
  · have g1 := h1.up B
    have hlt2 : i < (l1.map em16).length := by omega
    have hg1 : (l1.map em16)[i] = em16 l1[i] := List.getElem_map ..
    have gx : l1.getD i 0 = l1[i] := by rw [List.getD_eq_getElem?_getD, List.getElem?_eq_getElem hlt]; rfl
    obtain ⟨n, hn⟩ : ∃ n, n = (em16 l1[i]).v.toNat := ⟨_, rfl⟩
    have hnl : n < 65536 := by rw [hn]; exact (em16 l1[i]).v.isLt
    have nS : n < (S.map (Cell.v : Bool → Value)).length := by rw [List.length_map, lS]; exact hnl
    have gS : (S.map (Cell.v : Bool → Value))[n] = .bool (S.getD n false) := by rw [List.getElem_map, List.getD_eq_getElem?_getD, List.getElem?_eq_getElem (by omega)]; rfl
    by_cases hin : ∃ j, j < i ∧ l1.getD j 0 = l1.getD i 0
    · obtain ⟨j, hj, hje⟩ := hin
      have hv : S.getD n false = true := by rw [hn, ← gx, ← hje]; exact hf1 j hj
      simp (maxSteps := 1000000) (disch := omega) only [WS, List.getElem_cons_zero, List.getElem_cons_succ, Option.isNone_some, Option.isNone_none, List.getD_cons_zero, List.getD_cons_succ, I.at, atL, atO, atP, evp, evs, retV, ↓reduceIte, Nat.reduceEqDiff, reduceCtorEq, AS, t0, t1, t2, t8, t9, t10, g1.Xix hlt2, g1.Xld hlt2, hg1, cell_e16, ← hn, X_ixa hnl, addr_add0, Nat.zero_add, Nat.mul_one, hr.Xld nS, gS, hv]
      exact ⟨B, Or.inr (Or.inr (Or.inl ⟨z1, z1, fun hall => by have := hall j i (by omega) hlt hje; omega⟩))⟩
    · have hno : ∀ j, j < i → (em16 (l1.getD j 0)).v.toNat ≠ n := fun j hj e => hin ⟨j, hj, by
        rw [gx]
        rw [hn] at e
        exact em16_inj (El.ext (BitVec.eq_of_toNat_eq e))⟩
      have hv : S.getD n false = false := hf0 n hno
      simp (maxSteps := 1000000) (disch := omega) only [WS, List.getElem_cons_zero, List.getElem_cons_succ, Option.isNone_some, Option.isNone_none, List.getD_cons_zero, List.getD_cons_succ, I.at, atL, atO, atP, evp, evs, retV, ↓reduceIte, Nat.reduceEqDiff, reduceCtorEq, AS, t0, t1, t2, t8, t9, t10, g1.Xix hlt2, g1.Xld hlt2, hg1, cell_e16, ← hn, X_ixa hnl, addr_add0, Nat.zero_add, Nat.mul_one, hr.Xld nS, gS, hv]
      refine hr.Xst nS (v := .bool true) rfl fun w3 hr3 hg => ?_
      have hset : (S.map (Cell.v : Bool → Value)).set n (.bool true) = (S.set n true).map Cell.v := by rw [List.map_set]; rfl
      rw [hset] at hr3
      have nS' : n < S.length := by omega
      simp (maxSteps := 1000000) (disch := omega) only [WS, List.getElem_cons_zero, List.getElem_cons_succ, Option.isNone_some, Option.isNone_none, List.getD_cons_zero, List.getD_cons_succ, I.at, atL, atO, atP, evp, evs, retV, ↓reduceIte, Nat.reduceEqDiff, reduceCtorEq, AS, t0, t1, t2, t8, t9, t10]
      refine ⟨⟨B.grown hg B.size (fun b hb => by cases hb; exact hsb), i + 1, _, rfl, by omega, by rw [List.length_set]; exact lS, hr3, fun j hj => ?_, fun m hm => ?_, fun a b ha hb e => ?_⟩, by omega⟩
      · rw [getD_setD S nS']
        by_cases hji : j = i
        · subst hji; rw [if_pos (by rw [gx, hn])]
        · rw [if_neg (hno j (by omega))]; exact hf1 j (by omega)
      · rw [getD_setD S nS', if_neg (fun e => hm i (by omega) (by rw [gx, ← hn, e]))]
        exact hf0 m fun j hj => hm j (by omega)
      · by_cases hai : a = i
        · by_cases hbi : b = i
          · rw [hai, hbi]
          · exact absurd ⟨b, by omega, by rw [← hai]; exact e.symm⟩ hin
        · by_cases hbi : b = i
          · exact absurd ⟨a, by omega, by rw [← hbi]; exact e⟩ hin
          · exact hnd a b (by omega) (by omega) e
  obtain rfl : i = l1.length := by omega
  clear hr hf1 hf0 lS
  simp (maxSteps := 1000000) (disch := omega) only [WS, List.getElem_cons_zero, List.getElem_cons_succ, Option.isNone_some, Option.isNone_none, List.getD_cons_zero, List.getD_cons_succ, I.at, atL, atO, atP, evp, evs, retV, ↓reduceIte, Nat.reduceEqDiff, reduceCtorEq, AS, t0, t1, t2, t8, t9, t10]
  refine X_call0 ((culletref04_vanishing_w_spec w2 s1 l1 (h1.up B) (by omega)).mono ?_)
  rintro sa w3 ⟨A, oA, lA, cA, hB⟩
  have B := B.trans (hB.mono B.size)
  clear hB
  have oA := oA.sl
  have g1 := h1.up B
  have g2 := h2.up B
  clear h1 h2
  simp (maxSteps := 1000000) (disch := omega) only [WS, List.getElem_cons_zero, List.getElem_cons_succ, Option.isNone_some, Option.isNone_none, List.getD_cons_zero, List.getD_cons_succ, I.at, atL, atO, atP, evp, evs, retV, ↓reduceIte, Nat.reduceEqDiff, reduceCtorEq, AS, t0, t1, t2, t8]
  refine X_mks (x := (0 : El 16)) (by simp only [maxBytes]; omega) (by omega) fun su w4 ou C => ?_
  have hz : List.replicate l1.length (0 : El 16) = (List.replicate l1.length (0 : El 16)).map em16 := by rw [List.map_replicate]; rfl
  rw [hz] at ou
  simp (maxSteps := 1000000) (disch := omega) only [WS, List.getElem_cons_zero, List.getElem_cons_succ, Option.isNone_some, Option.isNone_none, List.getD_cons_zero, List.getD_cons_succ, I.at, atL, atO, atP, evp, evs, retV, ↓reduceIte, Nat.reduceEqDiff, reduceCtorEq, AS, t0, t1, t2, t8]
  refine loop_of (fun t w' => t 0 = .bool true ∧ t 1 = s1 ∧ t 2 = s2 ∧ t 8 = .int .i64 (l1.length : Int) ∧ t 11 = sa ∧ t 12 = su ∧ RowKit.Below w3.heap.size w3 w' ∧ ∃ (i : Nat) (ls : List (El 16)), t 13 = .int .i64 (i : Int) ∧ i ≤ l1.length ∧ Ow w3.heap.size w' su (ls.map em16) ∧ ls.length = l1.length ∧ ∀ j, j < l1.length → evl ls (l1.getD j 0) = if j < i then l2.getD j 0 else 0)
    (fun t _ => l1.length - (toI (t 13)).toNat) ⟨by simp only [WS, List.getElem_cons_zero, List.getElem_cons_succ, Option.isNone_some, Option.isNone_none, List.getD_cons_zero, List.getD_cons_succ, I.at, atL, atO, atP, evp, evs, retV, ↓reduceIte, Nat.reduceEqDiff, reduceCtorEq]; exact t0, by simp only [WS, List.getElem_cons_zero, List.getElem_cons_succ, Option.isNone_some, Option.isNone_none, List.getD_cons_zero, List.getD_cons_succ, I.at, atL, atO, atP, evp, evs, retV, ↓reduceIte, Nat.reduceEqDiff, reduceCtorEq]; exact t1, by simp only [WS, List.getElem_cons_zero, List.getElem_cons_succ, Option.isNone_some, Option.isNone_none, List.getD_cons_zero, List.getD_cons_succ, I.at, atL, atO, atP, evp, evs, retV, ↓reduceIte, Nat.reduceEqDiff, reduceCtorEq]; exact t2, by simp only [WS, List.getElem_cons_zero, List.getElem_cons_succ, Option.isNone_some, Option.isNone_none, List.getD_cons_zero, List.getD_cons_succ, I.at, atL, atO, atP, evp, evs, retV, ↓reduceIte, Nat.reduceEqDiff, reduceCtorEq]; exact t8, by simp only [WS, List.getElem_cons_zero, List.getElem_cons_succ, Option.isNone_some, Option.isNone_none, List.getD_cons_zero, List.getD_cons_succ, I.at, atL, atO, atP, evp, evs, retV, ↓reduceIte, Nat.reduceEqDiff, reduceCtorEq], by simp only [WS, List.getElem_cons_zero, List.getElem_cons_succ, Option.isNone_some, Option.isNone_none, List.getD_cons_zero, List.getD_cons_succ, I.at, atL, atO, atP, evp, evs, retV, ↓reduceIte, Nat.reduceEqDiff, reduceCtorEq], C, 0, _, rfl, by omega, ou, List.length_replicate .., fun j hj => by rw [if_neg (by omega), evl_co, co_replicate, evn_zero]⟩ ?_
  clear t0 t1 t2 t8 t9 t10 C ou hz hi
  rintro t w5 ⟨t0, t1, t2, t8, t11, t12, C, i, ls, t13, hi, ou, lls, hv⟩
  by_cases hlt : i < l1.length
  · have i2 : i < l2.length := by omega
    have i1m : i < (l1.map em16).length := by omega
    have i2m : i < (l2.map em16).length := by omega
    have e1 : (l1.map em16)[i] = em16 l1[i] := List.getElem_map ..
    have e2 : (l2.map em16)[i] = em16 l2[i] := List.getElem_map ..
    have gx : l1.getD i 0 = l1[i] := by rw [List.getD_eq_getElem?_getD, List.getElem?_eq_getElem hlt]; rfl
    have gy : l2.getD i 0 = l2[i] := by rw [List.getD_eq_getElem?_getD, List.getElem?_eq_getElem i2]; rfl
    by_cases hy : l2[i] = 0
    · have d1 : decide (((em16 l2[i]).v.toNat : Int) = 0) = true := decide_eq_true ((em16_wz _).mpr hy)
      simp (maxSteps := 1000000) (disch := omega) only [WS, List.getElem_cons_zero, List.getElem_cons_succ, Option.isNone_some, Option.isNone_none, List.getD_cons_zero, List.getD_cons_succ, I.at, atL, atO, atP, evp, evs, retV, ↓reduceIte, Nat.reduceEqDiff, reduceCtorEq, AS, t0, t1, t2, t8, t11, t12, t13, (g2.up C).Xix i2m, (g2.up C).Xld i2m, e2, cell_e16, d1]
      exact ⟨⟨C, i + 1, ls, rfl, by omega, ou, lls, lag_skip (Y := fun j => l2.getD j 0) (by rw [gy]; exact hy) hv⟩, by omega⟩
    · have d1 : decide (((em16 l2[i]).v.toNat : Int) = 0) = false := decide_eq_false (fun e => hy ((em16_wz _).mp e))
      simp (maxSteps := 1000000) (disch := omega) only [WS, List.getElem_cons_zero, List.getElem_cons_succ, Option.isNone_some, Option.isNone_none, List.getD_cons_zero, List.getD_cons_succ, I.at, atL, atO, atP, evp, evs, retV, ↓reduceIte, Nat.reduceEqDiff, reduceCtorEq, AS, t0, t1, t2, t8, t11, t12, t13, (g2.up C).Xix i2m, (g2.up C).Xld i2m, e2, cell_e16, d1, (g1.up C).Xix i1m, (g1.up C).Xld i1m, e1]
      refine X_bsl (zs := [em16 l1[i], (⟨1⟩ : El 16)]) (by rfl) (by rfl) fun sx w6 ox hB => ?_
      have hx1 : [em16 l1[i], (⟨1⟩ : El 16)] = [l1[i], (1 : El 16)].map em16 := rfl
      rw [hx1] at ox
      have C6 := C.trans (hB.mono C.size)
      have ou6 := ou.up hB
      have sub6 : ∀ b, Fw.blk su = some b → b < w6.heap.size := fun b hb => (ou6.blk b hb).2
      clear hB
      simp (maxSteps := 1000000) (disch := omega) only [WS, List.getElem_cons_zero, List.getElem_cons_succ, Option.isNone_some, Option.isNone_none, List.getD_cons_zero, List.getD_cons_succ, I.at, atL, atO, atP, evp, evs, retV, ↓reduceIte, Nat.reduceEqDiff, reduceCtorEq, AS, t0, t1, t2, t8, t11, t12, t13]
      refine X_call0 ((culletref04_divide_w_spec w6 sa sx A [l1[i], 1] (oA.up C6) ox.sl (by omega) (by simp) (by rw [tln_lin]; omega)).mono ?_)
      rintro _ w7 ⟨sq, sm, q, m, rfl, oq, om, tq, tm, hco, hml, -, hql, hB⟩
      have C7 := C6.trans (hB.mono C6.size)
      have ou7 := ou6.up hB
      have hne : Fw.blk sq ≠ Fw.blk su := by
        intro e
        cases hb : Fw.blk sq with
        | none =>
          rw [hb] at e
          have := (ou7.sl.blk_lt (by intro e; have h := congrArg List.length e; rw [List.length_map, List.length_nil] at h; omega))
          obtain ⟨b, hb2, -⟩ := this
          rw [hb2] at e; cases e
        | some b =>
          have h1 := (oq.blk b hb).1
          have h2 := sub6 b (e.symm.trans hb)
          omega
      have oq := oq.sl
      rw [cA, co_lin] at hco
      rw [tln_lin] at hml
      obtain ⟨lq, q0, qo⟩ := oth hlt hnd tq tm hco hml
      clear hB om ox ou6 C6 sub6 C ou
      simp (maxSteps := 1000000) (disch := omega) only [WS, List.getElem_cons_zero, List.getElem_cons_succ, Option.isNone_some, Option.isNone_none, List.getD_cons_zero, List.getD_cons_succ, I.at, atL, atO, atP, evp, evs, retV, ↓reduceIte, Nat.reduceEqDiff, reduceCtorEq, AS, t0, t1, t2, t8, t11, t12, t13]
      refine WP_dops ?_
      have p1 := (g1.up C7).drew
      have p2 := (g2.up C7).drew
      have pq := oq.drew
      have see2 : Fw.sees Tryz.prog (.ld (.c (elP s2 i))) w7.drew (.int .u16 ((em16 l2[i]).v.toNat : Int)) = True := by rw [← e2]; exact p2.sees i2m Tryz.prog
      simp (maxSteps := 1000000) (disch := omega) only [ES, List.mem_cons, List.not_mem_nil, implies_true, forall_const, WS, List.getElem_cons_zero, List.getElem_cons_succ, Option.isNone_some, Option.isNone_none, List.getD_cons_zero, List.getD_cons_succ, I.at, atL, atO, atP, evp, evs, retV, ↓reduceIte, Nat.reduceEqDiff, reduceCtorEq, AS, t0, t1, t2, t8, t11, t12, t13, p1.Eix i1m, p1.Eld i1m, p2.Eix i2m, p2.Eld i2m, e1, e2, cell_e16]
      refine E_call0 ((culletref04_Eval_w_spec w7.drew sq q l1[i] pq (by omega)).mono ?_)
      rintro _ w8 ⟨rfl, rfl⟩
      simp (maxSteps := 1000000) (disch := omega) only [ES, List.mem_cons, List.not_mem_nil, implies_true, forall_const, WS, List.getElem_cons_zero, List.getElem_cons_succ, Option.isNone_some, Option.isNone_none, List.getD_cons_zero, List.getD_cons_succ, I.at, atL, atO, atP, evp, evs, retV, ↓reduceIte, Nat.reduceEqDiff, reduceCtorEq, AS, t0, t1, t2, t8, t11, t12, t13, see2]
      refine E_call0 ((culletref04_inverse_w_spec w7.drew (evl q l1[i]) q0).mono ?_)
      rintro _ w9 ⟨rfl, rfl⟩
      simp (maxSteps := 1000000) (disch := omega) only [ES, List.mem_cons, List.not_mem_nil, implies_true, forall_const, WS, List.getElem_cons_zero, List.getElem_cons_succ, Option.isNone_some, Option.isNone_none, List.getD_cons_zero, List.getD_cons_succ, I.at, atL, atO, atP, evp, evs, retV, ↓reduceIte, Nat.reduceEqDiff, reduceCtorEq, AS, t0, t1, t2, t8, t11, t12, t13, see2]
      refine E_call0 ((culletref04_timesx_w_spec w7.drew l2[i] (evl q l1[i]).inv).mono ?_)
      rintro _ w10 ⟨rfl, rfl⟩
      generalize hc : l2[i] * (evl q l1[i]).inv = c
      have hcy : c * evl q (l1.getD i 0) = l2[i] := by rw [gx, ← hc, El.mul_assoc, El.mul_comm (evl q l1[i]).inv, El.mul_inv _ q0, El.mul_one]
      have C8 := C7.trans ((bel_drew w7).mono C7.size)
      simp (maxSteps := 1000000) (disch := omega) only [ES, List.mem_cons, List.not_mem_nil, implies_true, forall_const, WS, List.getElem_cons_zero, List.getElem_cons_succ, Option.isNone_some, Option.isNone_none, List.getD_cons_zero, List.getD_cons_succ, I.at, atL, atO, atP, evp, evs, retV, ↓reduceIte, Nat.reduceEqDiff, reduceCtorEq, AS, t0, t1, t2, t8, t11, t12, t13]
      refine loop_of (fun t w' => t 0 = .bool true ∧ t 1 = s1 ∧ t 2 = s2 ∧ t 8 = .int .i64 (l1.length : Int) ∧ t 11 = sa ∧ t 12 = su ∧ t 13 = .int .i64 (i : Int) ∧ t 14 = sq ∧ t 16 = .int .u16 ((em16 c).v.toNat : Int) ∧ RowKit.Below w3.heap.size w3 w' ∧ Sl w' sq (q.map em16) ∧ ∃ (j : Nat) (ms : List (El 16)), t 17 = .int .i64 (j : Int) ∧ j ≤ l1.length ∧ Ow w3.heap.size w' su (ms.map em16) ∧ ms.length = l1.length ∧ ∀ u, (co ms).c u = (co ls).c u + (if u < j then c * (co q).c u else 0))
        (fun t _ => l1.length - (toI (t 17)).toNat) ⟨by simp only [WS, List.getElem_cons_zero, List.getElem_cons_succ, Option.isNone_some, Option.isNone_none, List.getD_cons_zero, List.getD_cons_succ, I.at, atL, atO, atP, evp, evs, retV, ↓reduceIte, Nat.reduceEqDiff, reduceCtorEq]; exact t0, by simp only [WS, List.getElem_cons_zero, List.getElem_cons_succ, Option.isNone_some, Option.isNone_none, List.getD_cons_zero, List.getD_cons_succ, I.at, atL, atO, atP, evp, evs, retV, ↓reduceIte, Nat.reduceEqDiff, reduceCtorEq]; exact t1, by simp only [WS, List.getElem_cons_zero, List.getElem_cons_succ, Option.isNone_some, Option.isNone_none, List.getD_cons_zero, List.getD_cons_succ, I.at, atL, atO, atP, evp, evs, retV, ↓reduceIte, Nat.reduceEqDiff, reduceCtorEq]; exact t2, by simp only [WS, List.getElem_cons_zero, List.getElem_cons_succ, Option.isNone_some, Option.isNone_none, List.getD_cons_zero, List.getD_cons_succ, I.at, atL, atO, atP, evp, evs, retV, ↓reduceIte, Nat.reduceEqDiff, reduceCtorEq]; exact t8, by simp only [WS, List.getElem_cons_zero, List.getElem_cons_succ, Option.isNone_some, Option.isNone_none, List.getD_cons_zero, List.getD_cons_succ, I.at, atL, atO, atP, evp, evs, retV, ↓reduceIte, Nat.reduceEqDiff, reduceCtorEq]; exact t11, by simp only [WS, List.getElem_cons_zero, List.getElem_cons_succ, Option.isNone_some, Option.isNone_none, List.getD_cons_zero, List.getD_cons_succ, I.at, atL, atO, atP, evp, evs, retV, ↓reduceIte, Nat.reduceEqDiff, reduceCtorEq]; exact t12, by simp only [WS, List.getElem_cons_zero, List.getElem_cons_succ, Option.isNone_some, Option.isNone_none, List.getD_cons_zero, List.getD_cons_succ, I.at, atL, atO, atP, evp, evs, retV, ↓reduceIte, Nat.reduceEqDiff, reduceCtorEq]; exact t13, by simp only [WS, List.getElem_cons_zero, List.getElem_cons_succ, Option.isNone_some, Option.isNone_none, List.getD_cons_zero, List.getD_cons_succ, I.at, atL, atO, atP, evp, evs, retV, ↓reduceIte, Nat.reduceEqDiff, reduceCtorEq], by simp only [WS, List.getElem_cons_zero, List.getElem_cons_succ, Option.isNone_some, Option.isNone_none, List.getD_cons_zero, List.getD_cons_succ, I.at, atL, atO, atP, evp, evs, retV, ↓reduceIte, Nat.reduceEqDiff, reduceCtorEq], C8, pq, 0, ls, rfl, by omega, ou7.drew, lls, fun u => by rw [if_neg (by omega), El.add_zero]⟩ ?_
      clear t0 t1 t2 t8 t11 t12 t13 C8 C7 pq oq ou7 p1 p2 see2
      rintro t w11 ⟨t0, t1, t2, t8, t11, t12, t13, t14, t16, C, oq, j, ms, t17, hj, ou, lms, hms⟩
      by_cases hjl : j < l1.length
      · have jm : j < ms.length := by omega
        have jmm : j < (ms.map em16).length := by rw [List.length_map]; exact jm
        have jq : j < q.length := by omega
        have jqm : j < (q.map em16).length := by rw [List.length_map]; exact jq
        have e3 : (ms.map em16)[j] = em16 ms[j] := List.getElem_map ..
        have e4 : (q.map em16)[j] = em16 q[j] := List.getElem_map ..
        simp (maxSteps := 1000000) (disch := omega) only [WS, List.getElem_cons_zero, List.getElem_cons_succ, Option.isNone_some, Option.isNone_none, List.getD_cons_zero, List.getD_cons_succ, I.at, atL, atO, atP, evp, evs, retV, ↓reduceIte, Nat.reduceEqDiff, reduceCtorEq, AS, t0, t1, t2, t8, t11, t12, t13, t14, t16, t17]
        refine WP_dops ?_
        have pu := ou.sl.drew
        have pq := oq.drew
        have see3 : Fw.sees Tryz.prog (.ld (.c (elP su j))) w11.drew (.int .u16 ((em16 ms[j]).v.toNat : Int)) = True := by rw [← e3]; exact pu.sees jmm Tryz.prog
        simp (maxSteps := 1000000) (disch := omega) only [ES, List.mem_cons, List.not_mem_nil, implies_true, forall_const, WS, List.getElem_cons_zero, List.getElem_cons_succ, Option.isNone_some, Option.isNone_none, List.getD_cons_zero, List.getD_cons_succ, I.at, atL, atO, atP, evp, evs, retV, ↓reduceIte, Nat.reduceEqDiff, reduceCtorEq, AS, t0, t1, t2, t8, t11, t12, t13, t14, t16, t17, pu.Eix jmm, pu.Eld jmm, pq.Eix jqm, pq.Eld jqm, e3, e4, cell_e16]
        refine E_call0 ((culletref04_timesx_w_spec w11.drew c q[j]).mono ?_)
        rintro _ w12 ⟨rfl, rfl⟩
        simp (maxSteps := 1000000) (disch := omega) only [ES, List.mem_cons, List.not_mem_nil, implies_true, forall_const, WS, List.getElem_cons_zero, List.getElem_cons_succ, Option.isNone_some, Option.isNone_none, List.getD_cons_zero, List.getD_cons_succ, I.at, atL, atO, atP, evp, evs, retV, ↓reduceIte, Nat.reduceEqDiff, reduceCtorEq, AS, t0, t1, t2, t8, t11, t12, t13, t14, t16, t17, see3, pu.Eix jmm, xor16, em16_add]
        refine Ow.Est ou.drew jmm (em16 (ms[j] + c * q[j])) fun w13 ou13 hg13 => ?_
        have hg13 := grown_of_drew hg13
        rw [← List.map_set] at ou13
        simp (maxSteps := 1000000) (disch := omega) only [ES, List.mem_cons, List.not_mem_nil, implies_true, forall_const, WS, List.getElem_cons_zero, List.getElem_cons_succ, Option.isNone_some, Option.isNone_none, List.getD_cons_zero, List.getD_cons_succ, I.at, atL, atO, atP, evp, evs, retV, ↓reduceIte, Nat.reduceEqDiff, reduceCtorEq, AS, t0, t1, t2, t8, t11, t12, t13, t14, t16, t17]
        refine ⟨⟨C.grown hg13 C.size (fun b hb => (ou.blk b hb).1), oq.grown hg13 (Or.inl hne), j + 1, _, rfl, by omega, ou13, by rw [List.length_set]; exact lms, fun u => ?_⟩, by omega⟩
        rw [co_set _ jm, hms u]
        by_cases hu : u = j
        · subst hu
          have := hms u
          rw [if_neg (by omega), El.add_zero, co_get ms jm] at this
          rw [if_pos rfl, if_pos (by omega), this, co_get q jq]
        · rw [if_neg hu]
          have : (u < j + 1) = (u < j) := propext ⟨fun h => by omega, fun h => by omega⟩
          simp only [this]
      · simp (maxSteps := 1000000) (disch := omega) only [WS, List.getElem_cons_zero, List.getElem_cons_succ, Option.isNone_some, Option.isNone_none, List.getD_cons_zero, List.getD_cons_succ, I.at, atL, atO, atP, evp, evs, retV, ↓reduceIte, Nat.reduceEqDiff, reduceCtorEq, AS, t0, t1, t2, t8, t11, t12, t13, t14, t16, t17]
        refine ⟨⟨C, i + 1, ms, rfl, by omega, ou, lms, lag_step hlt lq qo hcy lls lms (fun u hu => by rw [hms u, if_pos (by omega)]) (Y := fun j => l2.getD j 0) gy hv⟩, by omega⟩
  · obtain rfl : i = l1.length := by omega
    have lmm : (ls.map em16).length ≤ 70368744175616 := by rw [List.length_map]; omega
    simp (maxSteps := 1000000) (disch := omega) only [WS, List.getElem_cons_zero, List.getElem_cons_succ, Option.isNone_some, Option.isNone_none, List.getD_cons_zero, List.getD_cons_succ, I.at, atL, atO, atP, evp, evs, retV, ↓reduceIte, Nat.reduceEqDiff, reduceCtorEq, AS, t0, t1, t2, t8, t11, t12, t13]
    refine X_call0 ((culletref04_Trim_spec w5 su (ls.map em16) ou.sl lmm).mono ?_)
    rintro v w6 ⟨o6, hB⟩
    rw [tr_em16] at o6
    have hlt2 := tln_le ls
    simp (maxSteps := 1000000) (disch := omega) only [WS, List.getElem_cons_zero, List.getElem_cons_succ, Option.isNone_some, Option.isNone_none, List.getD_cons_zero, List.getD_cons_succ, I.at, atL, atO, atP, evp, evs, retV, ↓reduceIte, Nat.reduceEqDiff, reduceCtorEq, AS]
    refine ⟨(B.trans (C.mono B.size)).trans (hB.mono (Nat.le_trans B.size C.size)), Or.inl ⟨z1, by omega, hnd, v, tr ls, rfl, o6.mono (Nat.le_trans B.size C.size), tr_tr ls, by rw [tr_len]; omega, fun j hj => ?_⟩⟩
    rw [evl_eq _ (tr_co ls), hv j hj, if_pos hj]
end Go.Proofs.YtcdagkcchfibjaaGreat.Fw

namespace Go.Proofs.YtcdagkcchfibjaaGreat.Fw
open Go Go.Fw
theorem culletref04_Interpolate_b_spec (w : World) (s1 s2 : Value) (l1 l2 : List (El 8)) (h1 : Sl w s1 (l1.map em8)) (h2 : Sl w s2 (l2.map em8)) (hb1 : l1.length ≤ 70368744175616) (hb2 : l2.length ≤ 70368744175616) :
    CallV Tryz.prog 51 [.bool false, s1, s2] w fun v w' => RowKit.Below w.heap.size w w' ∧
      ((l1.length ≤ 1024 ∧ l2.length ≤ 1024 ∧ l2.length = l1.length ∧ (∀ a b, a < l1.length → b < l1.length → l1.getD a 0 = l1.getD b 0 → a = b) ∧ ∃ (s : Value) (m : List (El 8)), v = .tuple #[s, .int .i64 0] ∧ Ow w.heap.size w' s (m.map em8) ∧ tr m = m ∧ m.length ≤ l1.length ∧ ∀ j, j < l1.length → evl m (l1.getD j 0) = l2.getD j 0) ∨
       (l1.length ≤ 1024 ∧ l2.length ≤ 1024 ∧ l2.length ≠ l1.length ∧ v = .tuple #[.slice none 0 0, .int .i64 6]) ∨
       (l1.length ≤ 1024 ∧ l2.length ≤ 1024 ∧ l2.length = l1.length ∧ ¬ (∀ a b, a < l1.length → b < l1.length → l1.getD a 0 = l1.getD b 0 → a = b) ∧ v = .tuple #[.slice none 0 0, .int .i64 41]) ∨
       (¬ (l1.length ≤ 1024 ∧ l2.length ≤ 1024) ∧ v = .tuple #[.slice none 0 0, .int .i64 5])) := by
  have hm1 : (l1.map em8).length = l1.length := List.length_map ..
  have hm2 : (l2.map em8).length = l2.length := List.length_map ..
  obtain ⟨S0, hS0l, hS0z, hzS⟩ := rep_facts 65536
  refine run_culletref04_Interpolate (by simp) ?_
  unfold c_culletref04_Interpolate
  generalize hZ : List.replicate 65536 (Value.bool false) = z at hzS
  clear hZ
  subst hzS
  simp only [WS, List.getElem_cons_zero, List.getElem_cons_succ, Option.isNone_some, Option.isNone_none, List.getD_cons_zero, List.getD_cons_succ, I.at, atL, atO, atP, evp, evs, retV, ↓reduceIte, Nat.reduceEqDiff, reduceCtorEq]
  by_cases z1 : l1.length ≤ 1024
  rotate_left
  · simp (maxSteps := 1000000) (disch := omega) only [WS, List.getElem_cons_zero, List.getElem_cons_succ, Option.isNone_some, Option.isNone_none, List.getD_cons_zero, List.getD_cons_succ, I.at, atL, atO, atP, evp, evs, retV, ↓reduceIte, Nat.reduceEqDiff, reduceCtorEq, AS, h1.Xlen, hm1]
    exact ⟨RowKit.Below.refl _ _, Or.inr (Or.inr (Or.inr (fun e => z1 e.1)))⟩
  by_cases z2 : l2.length ≤ 1024
  rotate_left
  · simp (maxSteps := 1000000) (disch := omega) only [WS, List.getElem_cons_zero, List.getElem_cons_succ, Option.isNone_some, Option.isNone_none, List.getD_cons_zero, List.getD_cons_succ, I.at, atL, atO, atP, evp, evs, retV, ↓reduceIte, Nat.reduceEqDiff, reduceCtorEq, AS, h1.Xlen, hm1, h2.Xlen, hm2]
    exact ⟨RowKit.Below.refl _ _, Or.inr (Or.inr (Or.inr (fun e => z2 e.2)))⟩
  by_cases hlen : l2.length = l1.length
  rotate_left
  · simp (maxSteps := 1000000) (disch := omega) only [WS, List.getElem_cons_zero, List.getElem_cons_succ, Option.isNone_some, Option.isNone_none, List.getD_cons_zero, List.getD_cons_succ, I.at, atL, atO, atP, evp, evs, retV, ↓reduceIte, Nat.reduceEqDiff, reduceCtorEq, AS, h1.Xlen, hm1, h2.Xlen, hm2]
    exact ⟨RowKit.Below.refl _ _, Or.inr (Or.inl ⟨z1, z2, hlen⟩)⟩
  simp (maxSteps := 1000000) (disch := omega) only [WS, List.getElem_cons_zero, List.getElem_cons_succ, Option.isNone_some, Option.isNone_none, List.getD_cons_zero, List.getD_cons_succ, I.at, atL, atO, atP, evp, evs, retV, ↓reduceIte, Nat.reduceEqDiff, reduceCtorEq, AS, h1.Xlen, hm1, h2.Xlen, hm2, hlen, show ∀ e : Int, decide (e = e) = true from fun e => decide_eq_true rfl]
  refine X_alloc fun sb w1 hr hsb hB => ?_
  simp (maxSteps := 1000000) (disch := omega) only [WS, List.getElem_cons_zero, List.getElem_cons_succ, Option.isNone_some, Option.isNone_none, List.getD_cons_zero, List.getD_cons_succ, I.at, atL, atO, atP, evp, evs, retV, ↓reduceIte, Nat.reduceEqDiff, reduceCtorEq, AS]
  refine loop_of (fun t w' => t 0 = .bool false ∧ t 1 = s1 ∧ t 2 = s2 ∧ t 8 = .int .i64 (l1.length : Int) ∧ t 9 = .pointer (some ⟨sb, 0, none⟩) ∧ RowKit.Below w.heap.size w w' ∧ ∃ (i : Nat) (S : List Bool), t 10 = .int .i64 (i : Int) ∧ i ≤ l1.length ∧ S.length = 65536 ∧ Row w' sb (S.map Cell.v) ∧ (∀ j, j < i → S.getD (em8 (l1.getD j 0)).v.toNat false = true) ∧ (∀ n : Nat, (∀ j, j < i → (em8 (l1.getD j 0)).v.toNat ≠ n) → S.getD n false = false) ∧ ∀ a b, a < i → b < i → l1.getD a 0 = l1.getD b 0 → a = b)
    (fun t _ => l1.length - (toI (t 10)).toNat) ⟨by simp only [WS, List.getElem_cons_zero, List.getElem_cons_succ, Option.isNone_some, Option.isNone_none, List.getD_cons_zero, List.getD_cons_succ, I.at, atL, atO, atP, evp, evs, retV, ↓reduceIte, Nat.reduceEqDiff, reduceCtorEq], by simp only [WS, List.getElem_cons_zero, List.getElem_cons_succ, Option.isNone_some, Option.isNone_none, List.getD_cons_zero, List.getD_cons_succ, I.at, atL, atO, atP, evp, evs, retV, ↓reduceIte, Nat.reduceEqDiff, reduceCtorEq], by simp only [WS, List.getElem_cons_zero, List.getElem_cons_succ, Option.isNone_some, Option.isNone_none, List.getD_cons_zero, List.getD_cons_succ, I.at, atL, atO, atP, evp, evs, retV, ↓reduceIte, Nat.reduceEqDiff, reduceCtorEq], by simp only [WS, List.getElem_cons_zero, List.getElem_cons_succ, Option.isNone_some, Option.isNone_none, List.getD_cons_zero, List.getD_cons_succ, I.at, atL, atO, atP, evp, evs, retV, ↓reduceIte, Nat.reduceEqDiff, reduceCtorEq], by simp only [WS, List.getElem_cons_zero, List.getElem_cons_succ, Option.isNone_some, Option.isNone_none, List.getD_cons_zero, List.getD_cons_succ, I.at, atL, atO, atP, evp, evs, retV, ↓reduceIte, Nat.reduceEqDiff, reduceCtorEq], hB, 0, S0, rfl, by omega, hS0l, hr, fun j hj => by omega, fun n _ => hS0z n, fun a b ha => by omega⟩ ?_
  clear hB hr hS0l hS0z
  rintro t w2 ⟨t0, t1, t2, t8, t9, B, i, S, t10, hi, lS, hr, hf1, hf0, hnd⟩
  by_cases hlt : i < l1.length
  · have g1 := h1.up B
    have hlt2 : i < (l1.map em8).length := by omega
    have hg1 : (l1.map em8)[i] = em8 l1[i] := List.getElem_map ..
    have gx : l1.getD i 0 = l1[i] := by rw [List.getD_eq_getElem?_getD, List.getElem?_eq_getElem hlt]; rfl
    obtain ⟨n, hn⟩ : ∃ n, n = (em8 l1[i]).v.toNat := ⟨_, rfl⟩
    have hnl : n < 65536 := by rw [hn]; exact (em8 l1[i]).v.isLt
    have nS : n < (S.map (Cell.v : Bool → Value)).length := by rw [List.length_map, lS]; exact hnl
    have gS : (S.map (Cell.v : Bool → Value))[n] = .bool (S.getD n false) := by rw [List.getElem_map, List.getD_eq_getElem?_getD, List.getElem?_eq_getElem (by omega)]; rfl
    by_cases hin : ∃ j, j < i ∧ l1.getD j 0 = l1.getD i 0
    · obtain ⟨j, hj, hje⟩ := hin
      have hv : S.getD n false = true := by rw [hn, ← gx, ← hje]; exact hf1 j hj
      simp (maxSteps := 1000000) (disch := omega) only [WS, List.getElem_cons_zero, List.getElem_cons_succ, Option.isNone_some, Option.isNone_none, List.getD_cons_zero, List.getD_cons_succ, I.at, atL, atO, atP, evp, evs, retV, ↓reduceIte, Nat.reduceEqDiff, reduceCtorEq, AS, t0, t1, t2, t8, t9, t10, g1.Xix hlt2, g1.Xld hlt2, hg1, cell_e16, ← hn, X_ixa hnl, addr_add0, Nat.zero_add, Nat.mul_one, hr.Xld nS, gS, hv]
      exact ⟨B, Or.inr (Or.inr (Or.inl ⟨z1, z1, fun hall => by have := hall j i (by omega) hlt hje; omega⟩))⟩
    · have hno : ∀ j, j < i → (em8 (l1.getD j 0)).v.toNat ≠ n := fun j hj e => hin ⟨j, hj, by
        rw [gx]
        rw [hn] at e
        exact em8_inj (El.ext (BitVec.eq_of_toNat_eq e))⟩
      have hv : S.getD n false = false := hf0 n hno
      simp (maxSteps := 1000000) (disch := omega) only [WS, List.getElem_cons_zero, List.getElem_cons_succ, Option.isNone_some, Option.isNone_none, List.getD_cons_zero, List.getD_cons_succ, I.at, atL, atO, atP, evp, evs, retV, ↓reduceIte, Nat.reduceEqDiff, reduceCtorEq, AS, t0, t1, t2, t8, t9, t10, g1.Xix hlt2, g1.Xld hlt2, hg1, cell_e16, ← hn, X_ixa hnl, addr_add0, Nat.zero_add, Nat.mul_one, hr.Xld nS, gS, hv]
      refine hr.Xst nS (v := .bool true) rfl fun w3 hr3 hg => ?_
      have hset : (S.map (Cell.v : Bool → Value)).set n (.bool true) = (S.set n true).map Cell.v := by rw [List.map_set]; rfl
      rw [hset] at hr3
      have nS' : n < S.length := by omega
      simp (maxSteps := 1000000) (disch := omega) only [WS, List.getElem_cons_zero, List.getElem_cons_succ, Option.isNone_some, Option.isNone_none, List.getD_cons_zero, List.getD_cons_succ, I.at, atL, atO, atP, evp, evs, retV, ↓reduceIte, Nat.reduceEqDiff, reduceCtorEq, AS, t0, t1, t2, t8, t9, t10]
      refine ⟨⟨B.grown hg B.size (fun b hb => by cases hb; exact hsb), i + 1, _, rfl, by omega, by rw [List.length_set]; exact lS, hr3, fun j hj => ?_, fun m hm => ?_, fun a b ha hb e => ?_⟩, by omega⟩
      · rw [getD_setD S nS']
        by_cases hji : j = i
        · subst hji; rw [if_pos (by rw [gx, hn])]
        · rw [if_neg (hno j (by omega))]; exact hf1 j (by omega)
      · rw [getD_setD S nS', if_neg (fun e => hm i (by omega) (by rw [gx, ← hn, e]))]
        exact hf0 m fun j hj => hm j (by omega)
      · by_cases hai : a = i
        · by_cases hbi : b = i
          · rw [hai, hbi]
          · exact absurd ⟨b, by omega, by rw [← hai]; exact e.symm⟩ hin
        · by_cases hbi : b = i
          · exact absurd ⟨a, by omega, by rw [← hbi]; exact e⟩ hin
          · exact hnd a b (by omega) (by omega) e
  obtain rfl : i = l1.length := by omega
  clear hr hf1 hf0 lS
  simp (maxSteps := 1000000) (disch := omega) only [WS, List.getElem_cons_zero, List.getElem_cons_succ, Option.isNone_some, Option.isNone_none, List.getD_cons_zero, List.getD_cons_succ, I.at, atL, atO, atP, evp, evs, retV, ↓reduceIte, Nat.reduceEqDiff, reduceCtorEq, AS, t0, t1, t2, t8, t9, t10]
  refine X_call0 ((culletref04_vanishing_b_spec w2 s1 l1 (h1.up B) (by omega)).mono ?_)
  rintro sa w3 ⟨A, oA, lA, cA, hB⟩
  have B := B.trans (hB.mono B.size)
  clear hB
  have oA := oA.sl
  have g1 := h1.up B
  have g2 := h2.up B
  clear h1 h2
  simp (maxSteps := 1000000) (disch := omega) only [WS, List.getElem_cons_zero, List.getElem_cons_succ, Option.isNone_some, Option.isNone_none, List.getD_cons_zero, List.getD_cons_succ, I.at, atL, atO, atP, evp, evs, retV, ↓reduceIte, Nat.reduceEqDiff, reduceCtorEq, AS, t0, t1, t2, t8]
  refine X_mks (x := (0 : El 16)) (by simp only [maxBytes]; omega) (by omega) fun su w4 ou C => ?_
  have hz : List.replicate l1.length (0 : El 16) = (List.replicate l1.length (0 : El 8)).map em8 := by rw [List.map_replicate]; rfl
  rw [hz] at ou
  simp (maxSteps := 1000000) (disch := omega) only [WS, List.getElem_cons_zero, List.getElem_cons_succ, Option.isNone_some, Option.isNone_none, List.getD_cons_zero, List.getD_cons_succ, I.at, atL, atO, atP, evp, evs, retV, ↓reduceIte, Nat.reduceEqDiff, reduceCtorEq, AS, t0, t1, t2, t8]
  refine loop_of (fun t w' => t 0 = .bool false ∧ t 1 = s1 ∧ t 2 = s2 ∧ t 8 = .int .i64 (l1.length : Int) ∧ t 11 = sa ∧ t 12 = su ∧ RowKit.Below w3.heap.size w3 w' ∧ ∃ (i : Nat) (ls : List (El 8)), t 13 = .int .i64 (i : Int) ∧ i ≤ l1.length ∧ Ow w3.heap.size w' su (ls.map em8) ∧ ls.length = l1.length ∧ ∀ j, j < l1.length → evl ls (l1.getD j 0) = if j < i then l2.getD j 0 else 0)
    (fun t _ => l1.length - (toI (t 13)).toNat) ⟨by simp only [WS, List.getElem_cons_zero, List.getElem_cons_succ, Option.isNone_some, Option.isNone_none, List.getD_cons_zero, List.getD_cons_succ, I.at, atL, atO, atP, evp, evs, retV, ↓reduceIte, Nat.reduceEqDiff, reduceCtorEq]; exact t0, by simp only [WS, List.getElem_cons_zero, List.getElem_cons_succ, Option.isNone_some, Option.isNone_none, List.getD_cons_zero, List.getD_cons_succ, I.at, atL, atO, atP, evp, evs, retV, ↓reduceIte, Nat.reduceEqDiff, reduceCtorEq]; exact t1, by simp only [WS, List.getElem_cons_zero, List.getElem_cons_succ, Option.isNone_some, Option.isNone_none, List.getD_cons_zero, List.getD_cons_succ, I.at, atL, atO, atP, evp, evs, retV, ↓reduceIte, Nat.reduceEqDiff, reduceCtorEq]; exact t2, by simp only [WS, List.getElem_cons_zero, List.getElem_cons_succ, Option.isNone_some, Option.isNone_none, List.getD_cons_zero, List.getD_cons_succ, I.at, atL, atO, atP, evp, evs, retV, ↓reduceIte, Nat.reduceEqDiff, reduceCtorEq]; exact t8, by simp only [WS, List.getElem_cons_zero, List.getElem_cons_succ, Option.isNone_some, Option.isNone_none, List.getD_cons_zero, List.getD_cons_succ, I.at, atL, atO, atP, evp, evs, retV, ↓reduceIte, Nat.reduceEqDiff, reduceCtorEq], by simp only [WS, List.getElem_cons_zero, List.getElem_cons_succ, Option.isNone_some, Option.isNone_none, List.getD_cons_zero, List.getD_cons_succ, I.at, atL, atO, atP, evp, evs, retV, ↓reduceIte, Nat.reduceEqDiff, reduceCtorEq], C, 0, _, rfl, by omega, ou, List.length_replicate .., fun j hj => by rw [if_neg (by omega), evl_co, co_replicate, evn_zero]⟩ ?_
  clear t0 t1 t2 t8 t9 t10 C ou hz hi
  rintro t w5 ⟨t0, t1, t2, t8, t11, t12, C, i, ls, t13, hi, ou, lls, hv⟩
  by_cases hlt : i < l1.length
  · have i2 : i < l2.length := by omega
    have i1m : i < (l1.map em8).length := by omega
    have i2m : i < (l2.map em8).length := by omega
    have e1 : (l1.map em8)[i] = em8 l1[i] := List.getElem_map ..
    have e2 : (l2.map em8)[i] = em8 l2[i] := List.getElem_map ..
    have gx : l1.getD i 0 = l1[i] := by rw [List.getD_eq_getElem?_getD, List.getElem?_eq_getElem hlt]; rfl
    have gy : l2.getD i 0 = l2[i] := by rw [List.getD_eq_getElem?_getD, List.getElem?_eq_getElem i2]; rfl
    by_cases hy : l2[i] = 0
    · have d1 : decide (((em8 l2[i]).v.toNat : Int) = 0) = true := decide_eq_true ((em8_wz _).mpr hy)
      simp (maxSteps := 1000000) (disch := omega) only [WS, List.getElem_cons_zero, List.getElem_cons_succ, Option.isNone_some, Option.isNone_none, List.getD_cons_zero, List.getD_cons_succ, I.at, atL, atO, atP, evp, evs, retV, ↓reduceIte, Nat.reduceEqDiff, reduceCtorEq, AS, t0, t1, t2, t8, t11, t12, t13, (g2.up C).Xix i2m, (g2.up C).Xld i2m, e2, cell_e16, d1]
      exact ⟨⟨C, i + 1, ls, rfl, by omega, ou, lls, lag_skip (Y := fun j => l2.getD j 0) (by rw [gy]; exact hy) hv⟩, by omega⟩
    · have d1 : decide (((em8 l2[i]).v.toNat : Int) = 0) = false := decide_eq_false (fun e => hy ((em8_wz _).mp e))
      simp (maxSteps := 1000000) (disch := omega) only [WS, List.getElem_cons_zero, List.getElem_cons_succ, Option.isNone_some, Option.isNone_none, List.getD_cons_zero, List.getD_cons_succ, I.at, atL, atO, atP, evp, evs, retV, ↓reduceIte, Nat.reduceEqDiff, reduceCtorEq, AS, t0, t1, t2, t8, t11, t12, t13, (g2.up C).Xix i2m, (g2.up C).Xld i2m, e2, cell_e16, d1, (g1.up C).Xix i1m, (g1.up C).Xld i1m, e1]
      refine X_bsl (zs := [em8 l1[i], (⟨1⟩ : El 16)]) (by rfl) (by rfl) fun sx w6 ox hB => ?_
      have hx1 : [em8 l1[i], (⟨1⟩ : El 16)] = [l1[i], (1 : El 8)].map em8 := rfl
      rw [hx1] at ox
      have C6 := C.trans (hB.mono C.size)
      have ou6 := ou.up hB
      have sub6 : ∀ b, Fw.blk su = some b → b < w6.heap.size := fun b hb => (ou6.blk b hb).2
      clear hB
      simp (maxSteps := 1000000) (disch := omega) only [WS, List.getElem_cons_zero, List.getElem_cons_succ, Option.isNone_some, Option.isNone_none, List.getD_cons_zero, List.getD_cons_succ, I.at, atL, atO, atP, evp, evs, retV, ↓reduceIte, Nat.reduceEqDiff, reduceCtorEq, AS, t0, t1, t2, t8, t11, t12, t13]
      refine X_call0 ((culletref04_divide_b_spec w6 sa sx A [l1[i], 1] (oA.up C6) ox.sl (by omega) (by simp) (by rw [tln_lin]; omega)).mono ?_)
      rintro _ w7 ⟨sq, sm, q, m, rfl, oq, om, tq, tm, hco, hml, -, hql, hB⟩
      have C7 := C6.trans (hB.mono C6.size)
      have ou7 := ou6.up hB
      have hne : Fw.blk sq ≠ Fw.blk su := by
        intro e
        cases hb : Fw.blk sq with
        | none =>
          rw [hb] at e
          have := (ou7.sl.blk_lt (by intro e; have h := congrArg List.length e; rw [List.length_map, List.length_nil] at h; omega))
          obtain ⟨b, hb2, -⟩ := this
          rw [hb2] at e; cases e
        | some b =>
          have h1 := (oq.blk b hb).1
          have h2 := sub6 b (e.symm.trans hb)
          omega
      have oq := oq.sl
      rw [cA, co_lin] at hco
      rw [tln_lin] at hml
      obtain ⟨lq, q0, qo⟩ := oth hlt hnd tq tm hco hml
      clear hB om ox ou6 C6 sub6 C ou
      simp (maxSteps := 1000000) (disch := omega) only [WS, List.getElem_cons_zero, List.getElem_cons_succ, Option.isNone_some, Option.isNone_none, List.getD_cons_zero, List.getD_cons_succ, I.at, atL, atO, atP, evp, evs, retV, ↓reduceIte, Nat.reduceEqDiff, reduceCtorEq, AS, t0, t1, t2, t8, t11, t12, t13]
      refine WP_dops ?_
      have p1 := (g1.up C7).drew
      have p2 := (g2.up C7).drew
      have pq := oq.drew
      have see2 : Fw.sees Tryz.prog (.ld (.c (elP s2 i))) w7.drew (.int .u16 ((em8 l2[i]).v.toNat : Int)) = True := by rw [← e2]; exact p2.sees i2m Tryz.prog
      simp (maxSteps := 1000000) (disch := omega) only [ES, List.mem_cons, List.not_mem_nil, implies_true, forall_const, WS, List.getElem_cons_zero, List.getElem_cons_succ, Option.isNone_some, Option.isNone_none, List.getD_cons_zero, List.getD_cons_succ, I.at, atL, atO, atP, evp, evs, retV, ↓reduceIte, Nat.reduceEqDiff, reduceCtorEq, AS, t0, t1, t2, t8, t11, t12, t13, p1.Eix i1m, p1.Eld i1m, p2.Eix i2m, p2.Eld i2m, e1, e2, cell_e16]
      refine E_call0 ((culletref04_Eval_b_spec w7.drew sq q l1[i] pq (by omega)).mono ?_)
      rintro _ w8 ⟨rfl, rfl⟩
      simp (maxSteps := 1000000) (disch := omega) only [ES, List.mem_cons, List.not_mem_nil, implies_true, forall_const, WS, List.getElem_cons_zero, List.getElem_cons_succ, Option.isNone_some, Option.isNone_none, List.getD_cons_zero, List.getD_cons_succ, I.at, atL, atO, atP, evp, evs, retV, ↓reduceIte, Nat.reduceEqDiff, reduceCtorEq, AS, t0, t1, t2, t8, t11, t12, t13, see2]
      refine E_call0 ((culletref04_inverse_b_spec w7.drew (evl q l1[i]) q0).mono ?_)
      rintro _ w9 ⟨rfl, rfl⟩
      simp (maxSteps := 1000000) (disch := omega) only [ES, List.mem_cons, List.not_mem_nil, implies_true, forall_const, WS, List.getElem_cons_zero, List.getElem_cons_succ, Option.isNone_some, Option.isNone_none, List.getD_cons_zero, List.getD_cons_succ, I.at, atL, atO, atP, evp, evs, retV, ↓reduceIte, Nat.reduceEqDiff, reduceCtorEq, AS, t0, t1, t2, t8, t11, t12, t13, see2]
      refine E_call0 ((culletref04_timesx_b_spec w7.drew l2[i] (evl q l1[i]).inv).mono ?_)
      rintro _ w10 ⟨rfl, rfl⟩
      generalize hc : l2[i] * (evl q l1[i]).inv = c
      have hcy : c * evl q (l1.getD i 0) = l2[i] := by rw [gx, ← hc, El.mul_assoc, El.mul_comm (evl q l1[i]).inv, El.mul_inv _ q0, El.mul_one]
      have C8 := C7.trans ((bel_drew w7).mono C7.size)
      simp (maxSteps := 1000000) (disch := omega) only [ES, List.mem_cons, List.not_mem_nil, implies_true, forall_const, WS, List.getElem_cons_zero, List.getElem_cons_succ, Option.isNone_some, Option.isNone_none, List.getD_cons_zero, List.getD_cons_succ, I.at, atL, atO, atP, evp, evs, retV, ↓reduceIte, Nat.reduceEqDiff, reduceCtorEq, AS, t0, t1, t2, t8, t11, t12, t13]
      refine loop_of (fun t w' => t 0 = .bool false ∧ t 1 = s1 ∧ t 2 = s2 ∧ t 8 = .int .i64 (l1.length : Int) ∧ t 11 = sa ∧ t 12 = su ∧ t 13 = .int .i64 (i : Int) ∧ t 14 = sq ∧ t 16 = .int .u16 ((em8 c).v.toNat : Int) ∧ RowKit.Below w3.heap.size w3 w' ∧ Sl w' sq (q.map em8) ∧ ∃ (j : Nat) (ms : List (El 8)), t 17 = .int .i64 (j : Int) ∧ j ≤ l1.length ∧ Ow w3.heap.size w' su (ms.map em8) ∧ ms.length = l1.length ∧ ∀ u, (co ms).c u = (co ls).c u + (if u < j then c * (co q).c u else 0))
        (fun t _ => l1.length - (toI (t 17)).toNat) ⟨by simp only [WS, List.getElem_cons_zero, List.getElem_cons_succ, Option.isNone_some, Option.isNone_none, List.getD_cons_zero, List.getD_cons_succ, I.at, atL, atO, atP, evp, evs, retV, ↓reduceIte, Nat.reduceEqDiff, reduceCtorEq]; exact t0, by simp only [WS, List.getElem_cons_zero, List.getElem_cons_succ, Option.isNone_some, Option.isNone_none, List.getD_cons_zero, List.getD_cons_succ, I.at, atL, atO, atP, evp, evs, retV, ↓reduceIte, Nat.reduceEqDiff, reduceCtorEq]; exact t1, by simp only [WS, List.getElem_cons_zero, List.getElem_cons_succ, Option.isNone_some, Option.isNone_none, List.getD_cons_zero, List.getD_cons_succ, I.at, atL, atO, atP, evp, evs, retV, ↓reduceIte, Nat.reduceEqDiff, reduceCtorEq]; exact t2, by simp only [WS, List.getElem_cons_zero, List.getElem_cons_succ, Option.isNone_some, Option.isNone_none, List.getD_cons_zero, List.getD_cons_succ, I.at, atL, atO, atP, evp, evs, retV, ↓reduceIte, Nat.reduceEqDiff, reduceCtorEq]; exact t8, by simp only [WS, List.getElem_cons_zero, List.getElem_cons_succ, Option.isNone_some, Option.isNone_none, List.getD_cons_zero, List.getD_cons_succ, I.at, atL, atO, atP, evp, evs, retV, ↓reduceIte, Nat.reduceEqDiff, reduceCtorEq]; exact t11, by simp only [WS, List.getElem_cons_zero, List.getElem_cons_succ, Option.isNone_some, Option.isNone_none, List.getD_cons_zero, List.getD_cons_succ, I.at, atL, atO, atP, evp, evs, retV, ↓reduceIte, Nat.reduceEqDiff, reduceCtorEq]; exact t12, by simp only [WS, List.getElem_cons_zero, List.getElem_cons_succ, Option.isNone_some, Option.isNone_none, List.getD_cons_zero, List.getD_cons_succ, I.at, atL, atO, atP, evp, evs, retV, ↓reduceIte, Nat.reduceEqDiff, reduceCtorEq]; exact t13, by simp only [WS, List.getElem_cons_zero, List.getElem_cons_succ, Option.isNone_some, Option.isNone_none, List.getD_cons_zero, List.getD_cons_succ, I.at, atL, atO, atP, evp, evs, retV, ↓reduceIte, Nat.reduceEqDiff, reduceCtorEq], by simp only [WS, List.getElem_cons_zero, List.getElem_cons_succ, Option.isNone_some, Option.isNone_none, List.getD_cons_zero, List.getD_cons_succ, I.at, atL, atO, atP, evp, evs, retV, ↓reduceIte, Nat.reduceEqDiff, reduceCtorEq], C8, pq, 0, ls, rfl, by omega, ou7.drew, lls, fun u => by rw [if_neg (by omega), El.add_zero]⟩ ?_
      clear t0 t1 t2 t8 t11 t12 t13 C8 C7 pq oq ou7 p1 p2 see2
      rintro t w11 ⟨t0, t1, t2, t8, t11, t12, t13, t14, t16, C, oq, j, ms, t17, hj, ou, lms, hms⟩
      by_cases hjl : j < l1.length
      · have jm : j < ms.length := by omega
        have jmm : j < (ms.map em8).length := by rw [List.length_map]; exact jm
        have jq : j < q.length := by omega
        have jqm : j < (q.map em8).length := by rw [List.length_map]; exact jq
        have e3 : (ms.map em8)[j] = em8 ms[j] := List.getElem_map ..
        have e4 : (q.map em8)[j] = em8 q[j] := List.getElem_map ..
        simp (maxSteps := 1000000) (disch := omega) only [WS, List.getElem_cons_zero, List.getElem_cons_succ, Option.isNone_some, Option.isNone_none, List.getD_cons_zero, List.getD_cons_succ, I.at, atL, atO, atP, evp, evs, retV, ↓reduceIte, Nat.reduceEqDiff, reduceCtorEq, AS, t0, t1, t2, t8, t11, t12, t13, t14, t16, t17]
        refine WP_dops ?_
        have pu := ou.sl.drew
        have pq := oq.drew
        have see3 : Fw.sees Tryz.prog (.ld (.c (elP su j))) w11.drew (.int .u16 ((em8 ms[j]).v.toNat : Int)) = True := by rw [← e3]; exact pu.sees jmm Tryz.prog
        simp (maxSteps := 1000000) (disch := omega) only [ES, List.mem_cons, List.not_mem_nil, implies_true, forall_const, WS, List.getElem_cons_zero, List.getElem_cons_succ, Option.isNone_some, Option.isNone_none, List.getD_cons_zero, List.getD_cons_succ, I.at, atL, atO, atP, evp, evs, retV, ↓reduceIte, Nat.reduceEqDiff, reduceCtorEq, AS, t0, t1, t2, t8, t11, t12, t13, t14, t16, t17, pu.Eix jmm, pu.Eld jmm, pq.Eix jqm, pq.Eld jqm, e3, e4, cell_e16]
        refine E_call0 ((culletref04_timesx_b_spec w11.drew c q[j]).mono ?_)
        rintro _ w12 ⟨rfl, rfl⟩
        simp (maxSteps := 1000000) (disch := omega) only [ES, List.mem_cons, List.not_mem_nil, implies_true, forall_const, WS, List.getElem_cons_zero, List.getElem_cons_succ, Option.isNone_some, Option.isNone_none, List.getD_cons_zero, List.getD_cons_succ, I.at, atL, atO, atP, evp, evs, retV, ↓reduceIte, Nat.reduceEqDiff, reduceCtorEq, AS, t0, t1, t2, t8, t11, t12, t13, t14, t16, t17, see3, pu.Eix jmm, xor16, em8_add]
        refine Ow.Est ou.drew jmm (em8 (ms[j] + c * q[j])) fun w13 ou13 hg13 => ?_
        have hg13 := grown_of_drew hg13
        rw [← List.map_set] at ou13
        simp (maxSteps := 1000000) (disch := omega) only [ES, List.mem_cons, List.not_mem_nil, implies_true, forall_const, WS, List.getElem_cons_zero, List.getElem_cons_succ, Option.isNone_some, Option.isNone_none, List.getD_cons_zero, List.getD_cons_succ, I.at, atL, atO, atP, evp, evs, retV, ↓reduceIte, Nat.reduceEqDiff, reduceCtorEq, AS, t0, t1, t2, t8, t11, t12, t13, t14, t16, t17]
        refine ⟨⟨C.grown hg13 C.size (fun b hb => (ou.blk b hb).1), oq.grown hg13 (Or.inl hne), j + 1, _, rfl, by omega, ou13, by rw [List.length_set]; exact lms, fun u => ?_⟩, by omega⟩
        rw [co_set _ jm, hms u]
        by_cases hu : u = j
        · subst hu
          have := hms u
          rw [if_neg (by omega), El.add_zero, co_get ms jm] at this
          rw [if_pos rfl, if_pos (by omega), this, co_get q jq]
        · rw [if_neg hu]
          have : (u < j + 1) = (u < j) := propext ⟨fun h => by omega, fun h => by omega⟩
          simp only [this]
      · simp (maxSteps := 1000000) (disch := omega) only [WS, List.getElem_cons_zero, List.getElem_cons_succ, Option.isNone_some, Option.isNone_none, List.getD_cons_zero, List.getD_cons_succ, I.at, atL, atO, atP, evp, evs, retV, ↓reduceIte, Nat.reduceEqDiff, reduceCtorEq, AS, t0, t1, t2, t8, t11, t12, t13, t14, t16, t17]
        refine ⟨⟨C, i + 1, ms, rfl, by omega, ou, lms, lag_step hlt lq qo hcy lls lms (fun u hu => by rw [hms u, if_pos (by omega)]) (Y := fun j => l2.getD j 0) gy hv⟩, by omega⟩
  · obtain rfl : i = l1.length := by omega
    have lmm : (ls.map em8).length ≤ 70368744175616 := by rw [List.length_map]; omega
    simp (maxSteps := 1000000) (disch := omega) only [WS, List.getElem_cons_zero, List.getElem_cons_succ, Option.isNone_some, Option.isNone_none, List.getD_cons_zero, List.getD_cons_succ, I.at, atL, atO, atP, evp, evs, retV, ↓reduceIte, Nat.reduceEqDiff, reduceCtorEq, AS, t0, t1, t2, t8, t11, t12, t13]
    refine X_call0 ((culletref04_Trim_spec w5 su (ls.map em8) ou.sl lmm).mono ?_)
    rintro v w6 ⟨o6, hB⟩
    rw [tr_em8] at o6
    have hlt2 := tln_le ls
    simp (maxSteps := 1000000) (disch := omega) only [WS, List.getElem_cons_zero, List.getElem_cons_succ, Option.isNone_some, Option.isNone_none, List.getD_cons_zero, List.getD_cons_succ, I.at, atL, atO, atP, evp, evs, retV, ↓reduceIte, Nat.reduceEqDiff, reduceCtorEq, AS]
    refine ⟨(B.trans (C.mono B.size)).trans (hB.mono (Nat.le_trans B.size C.size)), Or.inl ⟨z1, by omega, hnd, v, tr ls, rfl, o6.mono (Nat.le_trans B.size C.size), tr_tr ls, by rw [tr_len]; omega, fun j hj => ?_⟩⟩
    rw [evl_eq _ (tr_co ls), hv j hj, if_pos hj]
end Go.Proofs.YtcdagkcchfibjaaGreat.Fw
