/- The built-in copy into a row of the call's own, out of a slice that is read: the row then holds what was copied, and behind it what it held. -/
import Derived.Laws.CopyOwn
import Derived.Laws.MakeOwn
import Derived.Test.YtcnabolainmaeaaWWords
set_option linter.unusedVariables false
namespace Go.Proofs.YtcnabolainmaeaaW.Copy
open Go.RowKit Go.Proofs.YtcnabolainmaeaaW.PrintWords
variable {P : Program} {ops : Array Oper} {rest : List Oper} {o : Oper} {a : Act} {Q : Exit → Act → World → Prop}

theorem grown_setRow (W : World) (g : Nat) (cs : Array Value) : W.grownBy (W.setRow g cs) (some g) :=
  ⟨rfl, rfl, rfl, by simp [World.setRow], fun k _ hne => setRow_other W g k cs (fun e => hne (by rw [e]))⟩

theorem R_copy {α : Type} {enc : α → Value} {h1 : ∀ x : α, (enc x).oneCell' = true} {W : World} (hgd : o.guard = none) (dO sO : Operand) (dT sT e : TypeId)
    (ho : o.op = .call { callee := .builtin .copy, args := #[dO, sO], argTypes := #[dT, sT] }) (hu : P.underlying dT = some (.slice e)) (hsz : (P.info? e).map (·.size) = some 1)
    (v : Value) (xs ys : List α) (A : Option Addr) (m c base mm : Nat) (ok : Nat → Prop) (hd : a.eval dO = v) (hs : a.eval sO = .slice A m c) (hmm : mm = min m xs.length)
    (HO : (Kd.scalar enc h1).R e W base ok v xs) (HR : (Kd.scalar enc h1).C W A m ys)
    (h : ∀ w1, (Kd.scalar enc h1).R e w1 base ok v (ys.take xs.length ++ xs.drop ys.length) → W.grownBy w1 v.ownBlock → wpList P ops Q rest (a.put o.dst (.int .i64 (mm : Int))) w1) :
    wpList P ops Q (o :: rest) a W := by
  have hm : ys.length = m := HR.1
  have hown := Kd.own_of_R HO
  by_cases h0 : mm = 0
  · have hxs : ys.take xs.length ++ xs.drop ys.length = xs := by
      rcases Nat.eq_zero_or_pos xs.length with hx | hx
      · rw [List.eq_nil_of_length_eq_zero hx]; simp
      · rw [List.eq_nil_of_length_eq_zero (show ys.length = 0 by omega)]; simp
    have h2 := h W (by rw [hxs]; exact HO) (World.grownBy.refl W _)
    subst h0
    rcases hown.2 with ⟨rfl, hn⟩ | ⟨g, cap, cur, rfl, _⟩
    · exact wpList_copy_nothing hgd dO sO dT sT ho e hu hsz none A 0 0 m c hd hs (by simp) h2
    · exact wpList_copy_nothing hgd dO sO dT sT ho e hu hsz _ A xs.length cap m c hd hs (by show min m xs.length = 0; omega) h2
  · rcases hown.2 with ⟨rfl, hn⟩ | ⟨g, cap, cur, rfl, hb, hh, hnc, hcm, hcs, htk⟩
    · omega
    · obtain ⟨ad, rfl, hc⟩ := HR.2.2 (by omega)
      have hlen : ((ys.take xs.length).map enc).length = min m xs.length := by simp [hm, Nat.min_comm]
      refine wpList_copy_own hgd dO sO dT sT ho e hu hsz g 0 xs.length cap ad m c hd hs cur e hh ((ys.take xs.length).map enc) hlen (fun j u hj => ?_) (by rw [hlen]; omega) (fun u hu2 => ?_) ?_
      · rw [List.getElem?_map] at hj
        obtain ⟨y, hy, rfl⟩ := Option.map_eq_some_iff.1 hj
        rw [List.getElem?_take] at hy
        split at hy
        · obtain ⟨cc, hcl, hK, hcell⟩ := hc j y hy
          have hcc : cc = [enc y] := hK
          subst hcc
          have := hcell 0 (enc y) rfl
          simpa [Kd.scalar] using this
        · cases hy
      · obtain ⟨y, _, rfl⟩ := List.mem_map.1 hu2
        exact h1 y
      · have hgoal := h (W.setRow g (cur.toList.take 0 ++ ((ys.take xs.length).map enc ++ cur.toList.drop (0 + ((ys.take xs.length).map enc).length))).toArray) ?_ (grown_setRow W g _)
        · have e0 : (((ys.take xs.length).map enc).length : Int) = (mm : Int) := by rw [hlen, ← hmm]
          rw [e0]
          exact hgoal
        · refine Kd.R_of_own ?_ HO.1
          have hll : (ys.take xs.length ++ xs.drop ys.length).length = xs.length := by
            rw [List.length_append, List.length_take, List.length_drop]; omega
          rw [hll]
          refine ⟨by rw [encs_length, hll]; simp, .inr ⟨g, cap, _, rfl, hb, setRow_heap W g _ _ e _ hh, hnc, hcm, ?_, ?_⟩⟩
          · simp only [List.take_zero, List.nil_append, Nat.zero_add, List.size_toArray, List.length_append, List.length_drop, Array.length_toList]
            rw [hlen]; omega
          · simp only [List.take_zero, List.nil_append, Nat.zero_add, hlen]
            have e1 : (encs enc xs) = cur.toList.take xs.length := by rw [← htk, Nat.mul_one]
            rw [encs_append]
            have e2 : encs enc (List.drop ys.length xs) = (cur.toList.take xs.length).drop ys.length := by
              rw [← e1]; simp [encs, List.map_drop]
            rw [e2]
            have e3 : ((ys.take xs.length).map enc).length = min m xs.length := hlen
            rw [Nat.mul_one, List.take_append, e3, List.take_of_length_le (by rw [e3]; omega)]
            congr 1
            rcases Nat.le_total m xs.length with hle | hle
            · rw [Nat.min_eq_left hle, hm, List.drop_take]
            · rw [Nat.min_eq_right hle, Nat.sub_self, List.take_zero, hm]
              exact (List.drop_eq_nil_of_le (by rw [List.length_take]; omega)).symm

/-- make([]T, 0, n): an empty row of the call's own, with room. -/
theorem R_make_room {α : Type} (d : Kd α) {w0 W : World} (base e : Nat) (hgd : o.guard = none) {N : Tmp} (hd : o.dst = some N) (t : TypeId) (x y : Operand) (ho : o.op = .makeSlice t x y) (n : Int) (hx : a.eval x = .int .i64 0) (hy : a.eval y = .int .i64 n)
    (ht : P.underlying t = some (.slice e)) (z : Value) (bytes : Nat) (hinfo : (P.info? e).map (fun i => (i.zero, i.size, i.bytes)) = some (some z, d.sz, bytes)) (hz : z.cells.size = d.sz) (hs0 : 0 < d.sz) (hb0 : 0 < bytes)
    (z0 : α) {ok okp : Nat → Prop} (hzero : d.M W base okp z0 z.cells.toList) (hok : ∀ k, okp k → ok k) (hfresh : ok W.heap.size) (h0 : 0 ≤ n) (hl : n.toNat * bytes ≤ 281474976710656) (HB : Below base w0 W) (hbase : base ≤ W.heap.size)
    (h : ∀ v1 w1, d.R e w1 base ok v1 [] → Below base w0 w1 → W.grownBy w1 none → (∃ b, v1.ownBlock = some b ∧ W.heap.size ≤ b) → wpList P ops Q rest (a.put o.dst v1) w1) : wpList P ops Q (o :: rest) a W := by
  obtain ⟨m, rfl⟩ := Int.eq_ofNat_of_zero_le h0
  simp only [Int.toNat_natCast] at hl
  obtain ⟨i0, hi, hzz⟩ := Option.map_eq_some_iff.1 hinfo
  simp only [Prod.mk.injEq] at hzz
  obtain ⟨hz0, hz1, hz2⟩ := hzz
  have hm : m ≤ 281474976710656 := Nat.le_trans (Nat.le_mul_of_pos_right _ hb0) hl
  obtain ⟨W', hr, hown, hg⟩ := run_make_own (P := P) W W.heap.size t e i0 z d.sz ht hi hz0 hz1 .i64 .i64 m (by rw [hz2, Nat.mul_comm]; exact hl) (by simp only [maxLen]; omega) (Nat.le_refl _)
  refine Kd.event_run hgd (v := .slice (some ⟨W.heap.size, 0, none⟩) 0 m) (w1 := W') (by simp [execOp, ho, hx, hy, hr]) (h _ _ ⟨fun k hk => ?_, [], own_weaken hown hbase, Reps.none _ _⟩ (HB.grown hg hbase (fun k hk => by cases hk)) hg ⟨W.heap.size, by simp [Value.ownBlock], Nat.le_refl _⟩)
  have : W.heap.size = k := by simpa [Value.ownBlock] using hk
  subst this
  exact hfresh
/-- A row that is read, its length spelled otherwise. -/
theorem reads_len {α : Type} {R : α → List Value → Prop} {size : Nat} {w : World} {A : Option Addr} {n m : Nat} {ps : List α} (e : n = m) (h : ReadsRow R size w A n ps) : ReadsRow R size w A m ps := e ▸ h
end Go.Proofs.YtcnabolainmaeaaW.Copy
