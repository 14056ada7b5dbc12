import Derived.Test.YtbaljbadlfopgaaFwJW
set_option linter.all false
set_option linter.unusedVariables false
set_option linter.unusedSimpArgs false
namespace Go.Fw
open Go

theorem anc_go : ∀ (l : List Oper) (acc : List (List Nat)), ∃ r : List (List Nat), l.foldl (fun acc o => acc ++ [(o.after.toList.filter fun e => Region.binds .any e).flatMap fun e => e.on :: acc.getD e.on []]) acc = acc ++ r ∧ r.length = l.length ∧
    ∀ m o, l[m]? = some o → ∀ k ∈ r.getD m [], ∃ e ∈ o.after.toList, Region.binds .any e = true ∧ (k = e.on ∨ k ∈ (acc ++ r).getD e.on [])
  | [], acc => ⟨[], by simp, rfl, fun m o h => by simp at h⟩
  | o :: l, acc => by
    obtain ⟨r, h1, h2, h3⟩ := anc_go l (acc ++ [(o.after.toList.filter fun e => Region.binds .any e).flatMap fun e => e.on :: acc.getD e.on []])
    refine ⟨((o.after.toList.filter fun e => Region.binds .any e).flatMap fun e => e.on :: acc.getD e.on []) :: r, ?_, by simp [h2], ?_⟩
    · rw [List.foldl_cons, h1]; simp
    · intro m o' ho k hk
      cases m with
      | zero =>
        simp only [List.getElem?_cons_zero, Option.some.injEq] at ho
        subst ho
        simp only [List.getD_cons_zero, List.mem_flatMap, List.mem_filter, List.mem_cons] at hk
        obtain ⟨e, ⟨he, hb⟩, hk⟩ := hk
        refine ⟨e, he, hb, ?_⟩
        rcases hk with rfl | hk
        · exact Or.inl rfl
        · right
          have hlt : e.on < acc.length := by
            rcases Nat.lt_or_ge e.on acc.length with h | h
            · exact h
            · simp [List.getD_eq_getElem?_getD, List.getElem?_eq_none h] at hk
          simp only [List.getD_eq_getElem?_getD, List.getElem?_append_left hlt] at hk ⊢
          exact hk
      | succ m =>
        simp only [List.getElem?_cons_succ] at ho
        simp only [List.getD_cons_succ] at hk
        obtain ⟨e, he, hb, hk⟩ := h3 m o' ho k hk
        refine ⟨e, he, hb, ?_⟩
        simpa using hk
theorem anc_spec (l : List Oper) (i : Nat) (o : Oper) (ho : l[i]? = some o) (k : Nat) (hk : k ∈ (ancOf l).getD i []) : ∃ e ∈ o.after.toList, Region.binds .any e = true ∧ (k = e.on ∨ k ∈ (ancOf l).getD e.on []) := by
  obtain ⟨r, h1, h2, h3⟩ := anc_go l []
  have e : ancOf l = r := by simpa [ancOf] using h1
  rw [e] at hk ⊢
  simpa using h3 i o ho k hk

theorem reg_get (P : Program) (ops : Array Oper) (f : Nat → List Nat) : ∀ (l : List Oper) (j m : Nat), (cRegFrom P ops f j l)[m]? = (l[m]?).map fun o => cD P ops (j + m) (f (j + m)) o
  | [], j, m => by simp [cRegFrom]
  | o :: l, j, 0 => by simp [cRegFrom]
  | o :: l, j, m + 1 => by
    simp only [cRegFrom, List.getElem?_cons_succ]
    rw [reg_get P ops f l (j + 1) m]
    simp only [Nat.add_assoc, Nat.add_comm 1 m]

section
variable {P : Program} {ops : Array Oper} {f : Nat → List Nat} {n : Nat} {Qn : T → World → Prop} {Q : Exit → Act → World → Prop}

def left (ds : List D) (listed : Array Bool) : List D := ds.filter fun d => !listed.getD d.n true

theorem wpAny_of_WD (hQ : ∀ a w, St n a → Qn (view a.tmps) w → Q .normal a w) (hd : dstsOk n (cRegFrom P ops f 0 ops.toList) = true) (hok : drOk ops.toList (cRegFrom P ops f 0 ops.toList) = true) :
    ∀ (fuel : Nat) (listed : Array Bool) (a : Act) (w : World) (rs : Logs) (es : Effs), listed.size = ops.size → (∀ i, listed.getD i false = true → ∀ k ∈ (ancOf ops.toList).getD i [], listed.getD k false = true) →
      (left (cRegFrom P ops f 0 ops.toList) listed).length ≤ fuel → St n a → WD P Qn (left (cRegFrom P ops f 0 ops.toList) listed) rs es (view a.tmps) w → wpAny P .any ops Q fuel listed a w := by
  have hget := fun m => reg_get P ops f ops.toList 0 m
  simp only [Nat.zero_add] at hget
  generalize hds : cRegFrom P ops f 0 ops.toList = ds at *
  simp only [drOk, Bool.and_eq_true] at hok
  obtain ⟨hedge, hpair⟩ := hok
  have hn : ∀ m d, ds[m]? = some d → d.n = m ∧ ∃ o, ops[m]? = some o ∧ d = cD P ops m (f m) o := by
    intro m d h
    rw [hget] at h
    obtain ⟨o, ho, rfl⟩ := Option.map_eq_some_iff.1 h
    exact ⟨cD_n _ _ _ _ _, o, by simpa using ho, rfl⟩
  have hlen : ds.length = ops.size := by
    have h1 := hget ds.length
    have h2 := hget (ds.length - 1)
    rcases Nat.lt_trichotomy ds.length ops.size with h | h | h
    · rw [List.getElem?_eq_none (Nat.le_refl _)] at h1
      rw [show ops.toList[ds.length]? = some ops[ds.length] by simp [h]] at h1
      simp at h1
    · exact h
    · have h3 := hget ops.size
      rw [List.getElem?_eq_getElem (by omega), show ops.toList[ops.size]? = none by simp] at h3
      simp at h3
  have hedges : ∀ i o, ops[i]? = some o → ∀ e ∈ o.after, Region.binds .any e = true → e.on < i := by
    intro i o ho e he hb
    simp only [edgesOk, List.all_eq_true] at hedge
    have hm : (o, i) ∈ ops.toList.zipIdx := by
      rw [List.mk_mem_zipIdx_iff_getElem?]; simpa using ho
    have h2 := hedge (o, i) hm
    simp only [Array.all_eq_true_iff_forall_mem] at h2
    have := h2 e he
    simpa [hb] using this
  intro fuel
  induction fuel with
  | zero =>
    intro listed a w rs es hsz hdc hle hs h
    have hnil : left ds listed = [] := List.eq_nil_of_length_eq_zero (by omega)
    rw [hnil] at h
    refine ⟨?_, hQ a w hs h⟩
    refine List.eq_nil_iff_forall_not_mem.2 fun i hi => ?_
    obtain ⟨h0, o, ho, _⟩ := mem_ready.1 hi
    have hd' : ds[i]? = some (cD P ops i (f i) o) := by rw [hget, show ops.toList[i]? = some o by simpa using ho]; rfl
    have : cD P ops i (f i) o ∈ left ds listed := List.mem_filter.2 ⟨List.mem_of_getElem? hd', by rw [cD_n]; simp [h0]⟩
    rw [hnil] at this; cases this
  | succ fuel ih =>
    intro listed a w rs es hsz hdc hle hs h
    refine ⟨fun hr => ?_, fun i hi => ?_⟩
    · -- nothing is ready: nothing is left
      have hnil : left ds listed = [] := by
        cases hl : left ds listed with
        | nil => rfl
        | cons d l =>
          exfalso
          obtain ⟨pre, post, hsplit, hpre, hp, hrest⟩ := List.filter_eq_cons_iff.1 hl
          have hdm : ds[pre.length]? = some d := by rw [hsplit]; simp
          obtain ⟨hdn, o, ho, hde⟩ := hn _ _ hdm
          have : pre.length ∈ Region.ready .any ops listed := by
            rw [mem_ready]
            refine ⟨by simpa [hdn] using hp, o, ho, fun e he hb => ?_⟩
            have hlt := hedges _ _ ho e he hb
            have hgp : ds[e.on]? = some pre[e.on] := by rw [hsplit, List.getElem?_append_left hlt]; exact List.getElem?_eq_getElem hlt
            have hno := hpre _ (List.getElem_mem hlt)
            obtain ⟨hen, _⟩ := hn _ _ hgp
            rw [hen] at hno
            have hin : e.on < listed.size := by rw [hsz, ← hlen]; rw [hsplit]; simp; omega
            simp only [Array.getD_eq_getD_getElem?, Array.getElem?_eq_getElem hin, Option.getD_some] at hno ⊢
            simpa using hno
          rw [hr] at this; cases this
      rw [hnil] at h
      exact hQ a w hs h
    · obtain ⟨h0, o, ho, hall⟩ := mem_ready.1 hi
      have hdi : ds[i]? = some (cD P ops i (f i) o) := by rw [hget, show ops.toList[i]? = some o by simpa using ho]; rfl
      have hilt : i < ds.length := (List.getElem?_eq_some_iff.1 hdi).1
      have hisz : i < listed.size := by rw [hsz, ← hlen]; exact hilt
      let x := cD P ops i (f i) o
      have hxn : x.n = i := cD_n _ _ _ _ _
      -- the list, parted at x
      have hsplit : ds = ds.take i ++ x :: ds.drop (i + 1) := by
        have hx : ds[i] = x := by
          have := List.getElem?_eq_getElem hilt
          rw [hdi] at this
          exact (Option.some.inj this).symm
        rw [← hx, List.getElem_cons_drop, List.take_append_drop]
      have hleft : left ds listed = left (ds.take i) listed ++ x :: left (ds.drop (i + 1)) listed := by
        conv => lhs; rw [hsplit]
        unfold left
        rw [List.filter_append, List.filter_cons, if_pos (by rw [hxn]; simp [h0])]
      have hind : ∀ y ∈ left (ds.take i) listed, Ind y x := by
        intro y hy
        obtain ⟨hm, hu⟩ := List.mem_filter.1 hy
        obtain ⟨j, hj, hyj⟩ := List.mem_iff_getElem.1 hm
        have hji : j < i := by simp at hj; omega
        have hyj' : ds[j]? = some y := by
          rw [List.getElem_take] at hyj
          rw [← hyj]; exact List.getElem?_eq_getElem (by omega)
        obtain ⟨hyn, oy, hoy, _⟩ := hn _ _ hyj'
        have hp := List.all_eq_true.1 (List.all_eq_true.1 hpair x (by rw [hsplit]; simp)) y (List.mem_of_getElem? hyj')
        simp only [Bool.or_eq_true, decide_eq_true_eq] at hp
        rw [hxn, hyn] at hp
        rcases hp with (hp | hp) | hp
        · omega
        · exfalso
          -- y stands ahead of x in the order: it has been done
          have hmem : j ∈ (ancOf ops.toList).getD i [] := by simpa using hp
          obtain ⟨e, he, hb, hk⟩ := anc_spec ops.toList i o (by simpa using ho) j hmem
          have hon := hall e (by simpa using he) hb
          have hj2 : listed.getD j false = true := by
            rcases hk with rfl | hk
            · exact hon
            · exact hdc e.on hon j hk
          rw [hyn] at hu
          have hjs : j < listed.size := by omega
          simp only [Array.getD_eq_getD_getElem?, Array.getElem?_eq_getElem hjs, Option.getD_some] at hj2 hu
          rw [hj2] at hu; cases hu
        · exact Ind.of hp
      -- behind x
      have hset : left ds (listed.setIfInBounds i true) = left (ds.take i) listed ++ left (ds.drop (i + 1)) listed := by
        have hother : ∀ l : List D, (∀ d ∈ l, d.n ≠ i) → left l (listed.setIfInBounds i true) = left l listed := by
          intro l hl
          unfold left
          apply List.filter_congr
          intro d hd'
          rw [getD_set_ne true (Ne.symm (hl d hd'))]
        conv => lhs; rw [hsplit]
        unfold left
        rw [List.filter_append, List.filter_cons, if_neg (by rw [hxn]; simp [hisz])]
        congr 1
        · refine hother _ fun d hdm => ?_
          obtain ⟨j, hj, hyj⟩ := List.mem_iff_getElem.1 hdm
          rw [List.getElem_take] at hyj
          have hji : j < i := by simp at hj; omega
          have := (hn j d (by rw [← hyj]; exact List.getElem?_eq_getElem (by omega))).1
          omega
        · refine hother _ fun d hdm => ?_
          obtain ⟨j, hj, hyj⟩ := List.mem_iff_getElem.1 hdm
          rw [List.getElem_drop] at hyj
          have hlt2 : i + 1 + j < ds.length := by simp at hj; omega
          have := (hn (i + 1 + j) d (by rw [← hyj]; exact List.getElem?_eq_getElem hlt2)).1
          omega
      have hdc' : ∀ i', (listed.setIfInBounds i true).getD i' false = true → ∀ k ∈ (ancOf ops.toList).getD i' [], (listed.setIfInBounds i true).getD k false = true := by
        intro i' hi' k hk
        by_cases he : i = i'
        · subst he
          obtain ⟨e, he, hb, hk⟩ := anc_spec ops.toList i o (by simpa using ho) k hk
          have hon := hall e (by simpa using he) hb
          rcases hk with rfl | hk
          · exact getD_set_true hon
          · exact getD_set_true (hdc e.on hon k hk)
        · rw [getD_set_ne false he] at hi'
          exact getD_set_true (hdc i' hi' k hk)
      have hle' : (left ds (listed.setIfInBounds i true)).length ≤ fuel := by
        rw [hset]
        rw [hleft] at hle
        simp only [List.length_append, List.length_cons] at hle ⊢
        omega
      have hdo : (match o.dst with | none => true | some k => decide (k < n)) = true := by
        have := List.all_eq_true.1 hd x (List.mem_of_getElem? hdi)
        rwa [show x.d = o.dst from cD_d _ _ _ _ _] at this
      rw [hleft] at h
      -- x is taken to the front
      have hstep : stepD P x (view a.tmps) w fun v w' => WD P Qn (left ds (listed.setIfInBounds i true)) rs es (put (view a.tmps) x.d v) w' := by
        rw [hset]
        by_cases hk : x.kd (view a.tmps) = .eff
        · exact stepD_mono (fun v w' h => h.2) (WD_frontE (P := P) (Q := Qn) _ _ hind rs es _ _ hk h)
        · obtain ⟨u, hu, _, h2⟩ := WD_front _ _ hind rs es _ _ hk h
          exact Y.step hk hu h2
      unfold wpOp
      rw [ho]
      simp only
      refine D_wp hstep fun v w' hk => ?_
      rw [show x.d = o.dst from cD_d _ _ _ _ _, ← view_put hs.size hdo] at hk
      exact ih _ _ w' rs es (by simp [hsz]) hdc' hle' (hs.put _ _) hk
end
end Go.Fw
