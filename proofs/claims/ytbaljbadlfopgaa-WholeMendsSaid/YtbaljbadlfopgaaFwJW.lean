import Derived.Test.YtbaljbadlfopgaaFwIW
set_option linter.all false
set_option linter.unusedVariables false
set_option linter.unusedSimpArgs false
namespace Go.Fw
open Go

theorem stepD_mono {P : Program} {d : D} {t : T} {w : World} {K K' : Value → World → Prop} (hk : ∀ v w', K v w' → K' v w') (h : stepD P d t w K) : stepD P d t w K' := by
  unfold stepD at *
  split
  · rename_i hg; rw [hg] at h; exact stepI_mono hk h
  · rename_i j want hg
    rw [hg] at h
    simp only at h
    by_cases he : t j = .bool want
    · rw [gd_true he] at h ⊢; exact stepI_mono hk h
    · rw [gd_false he] at h ⊢; exact hk _ _ h
theorem stepD_feas {P : Program} {d : D} {t : T} {w : World} {K : Value → World → Prop} (h : stepD P d t w K) : ∃ v w', K v w' := by
  unfold stepD at h
  split at h
  · exact stepI_feas h
  · rename_i j want hg
    by_cases he : t j = .bool want
    · rw [gd_true he] at h; exact stepI_feas h
    · rw [gd_false he] at h; exact ⟨_, _, h⟩
theorem stepD_congr (P : Program) {d : D} {t t' : T} (h : ∀ k ∈ d.reads, t k = t' k) (w : World) (K : Value → World → Prop) : stepD P d t w K = stepD P d t' w K := by
  unfold stepD
  have hi : stepI P d.i t w K = stepI P d.i t' w K := stepI_congr P (fun k hk => h k (by simp [D.reads, hk])) w K
  split
  · exact hi
  · rename_i j want hg
    rw [hi, h j (by simp [D.reads, hg])]
theorem stepD_put (P : Program) {d x : D} (t : T) (v : Value) (h : ∀ k, d.d = some k → k ∉ x.reads) (w : World) (K : Value → World → Prop) : stepD P x (put t d.d v) w K = stepD P x t w K := by
  refine stepD_congr P (fun k hk => ?_) w K
  cases hd : d.d with
  | none => rfl
  | some j =>
    simp only [put, upd]
    rw [if_neg]
    rintro rfl
    exact h _ hd hk
theorem gd_on {v : Value} {want : Bool} {A B : Prop} : gd v want A B = if gdB v want then A else B := by
  unfold gd gdB
  split
  · simp
  · simp
/-- What neither writes nor calls has one value, or none. -/
theorem stepD_fn (P : Program) {d : D} {t : T} (hk : d.kd t ≠ .eff) (w : World) : ∃ o : Option Value, ∀ K : Value → World → Prop, stepD P d t w K ↔ ∃ u, o = some u ∧ K u w := by
  have key : d.i.kind ≠ .eff → ∃ o : Option Value, ∀ K : Value → World → Prop, stepI P d.i t w K ↔ ∃ u, o = some u ∧ K u w := by
    intro hk
    cases hi : d.i.kind with
    | eff => exact absurd hi hk
    | pure =>
      obtain ⟨o, ho⟩ := fn_pure d.i t
      exact ⟨o, fun K => by rw [stepI_pure P hi]; exact ho _⟩
    | read =>
      obtain ⟨o, ho⟩ := fn_read d.i t w
      exact ⟨o, fun K => by rw [stepI_read P hi]; exact ho _⟩
  unfold stepD
  split
  · rename_i hg
    have : d.i.kind ≠ .eff := by unfold D.kd D.on at hk; rw [hg] at hk; simpa using hk
    exact key this
  · rename_i j want hg
    cases he : gdB (t j) want with
    | true =>
      have : d.i.kind ≠ .eff := by unfold D.kd D.on at hk; rw [hg] at hk; simpa [he] using hk
      obtain ⟨o, ho⟩ := key this
      exact ⟨o, fun K => by rw [gd_on, he]; exact ho K⟩
    | false => exact ⟨some undef, fun K => by rw [gd_on, he]; simp⟩
theorem stepD_pureW (P : Program) {d : D} {t : T} (hk : d.kd t = .pure) (w w' : World) (K : Value → Prop) : stepD P d t w (fun v _ => K v) ↔ stepD P d t w' (fun v _ => K v) := by
  have e : d.i.kind = .pure → stepI P d.i t w (fun v _ => K v) = stepI P d.i t w' (fun v _ => K v) := fun hk => by rw [stepI_pure P hk, stepI_pure P hk]
  unfold stepD
  split
  · rename_i hg
    have : d.i.kind = .pure := by unfold D.kd D.on at hk; rw [hg] at hk; simpa using hk
    rw [e this]
  · rename_i j want hg
    cases he : gdB (t j) want with
    | true =>
      have : d.i.kind = .pure := by unfold D.kd D.on at hk; rw [hg] at hk; simpa [he] using hk
      rw [gd_on, gd_on, he]; simp [e this]
    | false => rw [gd_on, gd_on, he]; simp
theorem kd_put {d x : D} (t : T) (v : Value) (h : ∀ k, d.d = some k → k ∉ x.reads) : x.kd (put t d.d v) = x.kd t := by
  unfold D.kd D.on
  cases hg : x.g with
  | none => rfl
  | some jb =>
    obtain ⟨j, b⟩ := jb
    have : put t d.d v j = t j := by
      cases hd : d.d with
      | none => rfl
      | some k =>
        simp only [put, upd]
        rw [if_neg]
        rintro rfl
        exact h _ hd (by simp [D.reads, hg])
    simp only [this]
theorem kd_eff {d : D} {t : T} (h : d.kd t = .eff) : d.i.kind = .eff := by
  unfold D.kd at h; split at h
  · exact h
  · cases h
theorem kd_read {d : D} {t : T} (h : d.kd t = .read) : d.i.kind = .read := by
  unfold D.kd at h; split at h
  · exact h
  · cases h

/-- The value that an instruction has here. -/
def Y (P : Program) (d : D) (t : T) (w : World) (u : Value) : Prop := stepD P d t w fun v _ => v = u
theorem Y.uniq {P : Program} {d : D} {t : T} (hk : d.kd t ≠ .eff) {w : World} {u u' : Value} (h : Y P d t w u) (h' : Y P d t w u') : u = u' := by
  obtain ⟨o, ho⟩ := stepD_fn P hk w
  obtain ⟨a, h1, h2⟩ := (ho _).1 h
  obtain ⟨b, h3, h4⟩ := (ho _).1 h'
  rw [h1] at h3; cases h3; rw [← h2, ← h4]
theorem Y.of {P : Program} {d : D} {t : T} (hk : d.kd t ≠ .eff) {w : World} {K : Value → World → Prop} (h : stepD P d t w K) : ∃ u, Y P d t w u ∧ K u w := by
  obtain ⟨o, ho⟩ := stepD_fn P hk w
  obtain ⟨u, h1, h2⟩ := (ho _).1 h
  exact ⟨u, (ho _).2 ⟨u, h1, rfl⟩, h2⟩
theorem Y.step {P : Program} {d : D} {t : T} (hk : d.kd t ≠ .eff) {w : World} {u : Value} (h : Y P d t w u) {K : Value → World → Prop} (hK : K u w) : stepD P d t w K := by
  obtain ⟨o, ho⟩ := stepD_fn P hk w
  obtain ⟨a, h1, rfl⟩ := (ho _).1 h
  exact (ho _).2 ⟨a, h1, hK⟩

abbrev Logs := List (Nat × (World → Prop))
abbrev Effs := List (Nat × World)
/-- What is asked, and what is noted, at one instruction of a region whose order is open. -/
def noteOk (P : Program) (d : D) (t : T) (rs : Logs) (es : Effs) (v : Value) (w' : World) : Prop :=
  match d.kd t with
  | .pure => True
  | .read => ∀ e ∈ es, e.1 ∈ d.u → Y P d t e.2 v
  | .eff => ∀ r ∈ rs, r.1 ∈ d.u → r.2 w'
def noteR (P : Program) (d : D) (t : T) (rs : Logs) (v : Value) : Logs :=
  match d.kd t with
  | .read => (d.n, fun w₁ => Y P d t w₁ v) :: rs
  | _ => rs
def noteE (d : D) (t : T) (es : Effs) (w : World) : Effs :=
  match d.kd t with
  | .eff => (d.n, w) :: es
  | _ => es
theorem WD_cons (P : Program) (Q : T → World → Prop) (d : D) (l : List D) (rs : Logs) (es : Effs) (t : T) (w : World) :
    WD P Q (d :: l) rs es t w = stepD P d t w fun v w' => noteOk P d t rs es v w' ∧ WD P Q l (noteR P d t rs v) (noteE d t es w) (put t d.d v) w' := by
  simp only [WD, noteOk, noteR, noteE]
  congr 1
  funext v w'
  cases d.kd t <;> simp [Y]

theorem WD_mono {P : Program} {Q : T → World → Prop} : ∀ (l : List D) {rs rs' : Logs} {es es' : Effs} (t : T) (w : World), (∀ r ∈ rs', r ∈ rs) → (∀ e ∈ es', e ∈ es) → WD P Q l rs es t w → WD P Q l rs' es' t w
  | [], _, _, _, _, _, _, _, _, h => h
  | d :: l, rs, rs', es, es', t, w, hr, he, h => by
    rw [WD_cons] at h ⊢
    refine stepD_mono (fun v w' ⟨h1, h2⟩ => ⟨?_, WD_mono l _ _ ?_ ?_ h2⟩) h
    · unfold noteOk at *
      cases hk : d.kd t with
      | pure => trivial
      | read => rw [hk] at h1; exact fun e hm => h1 e (he e hm)
      | eff => rw [hk] at h1; exact fun r hm => h1 r (hr r hm)
    · unfold noteR
      cases d.kd t with
      | read =>
        intro r hm
        rcases List.mem_cons.1 hm with rfl | hm
        · exact List.mem_cons_self
        · exact List.mem_cons_of_mem _ (hr r hm)
      | _ => exact hr
    · unfold noteE
      cases d.kd t with
      | eff =>
        intro r hm
        rcases List.mem_cons.1 hm with rfl | hm
        · exact List.mem_cons_self
        · exact List.mem_cons_of_mem _ (he r hm)
      | _ => exact he

structure Ind (y x : D) : Prop where
  yx : ∀ k, y.d = some k → k ∉ x.reads
  yd : ∀ k, y.d = some k → x.d ≠ some k
  xy : ∀ k, x.d = some k → k ∉ y.reads
  ee : y.i.kind = .eff → x.i.kind = .eff → False
  re : y.i.kind = .read → x.i.kind = .eff → y.n ∈ x.u
  er : y.i.kind = .eff → x.i.kind = .read → y.n ∈ x.u
theorem Ind.of {y x : D} (h : y.ind x = true) : Ind y x := by
  unfold D.ind at h
  simp only [Bool.and_eq_true] at h
  obtain ⟨⟨h1, h2⟩, h3⟩ := h
  refine ⟨fun k hk => ?_, fun k hk => ?_, fun k hk => ?_, fun hy hx => ?_, fun hy hx => ?_, fun hy hx => ?_⟩
  · rw [hk] at h1; simp at h1; exact h1.1
  · rw [hk] at h1; simp at h1; exact h1.2
  · rw [hk] at h2; simpa using h2
  · rw [hy, hx] at h3; simp at h3
  · rw [hy, hx] at h3; simpa using h3
  · rw [hy, hx] at h3; simpa using h3

theorem put_comm {t : T} {y x : Option Nat} (v u : Value) (h : ∀ k, y = some k → x ≠ some k) : put (put t y v) x u = put (put t x u) y v := by
  cases y with
  | none => rfl
  | some j =>
    cases x with
    | none => rfl
    | some k =>
      have hne : k ≠ j := fun e => h j rfl (by rw [e])
      funext i
      simp only [put, upd]
      by_cases h1 : i = k
      · subst h1; simp [hne]
      · simp [h1]

/-- What neither writes nor calls is taken to the front. -/
theorem WD_front {P : Program} {Q : T → World → Prop} {x : D} (post : List D) : ∀ (pre : List D) (hi : ∀ y ∈ pre, Ind y x) (rs : Logs) (es : Effs) (t : T) (w : World) (hx : x.kd t ≠ .eff),
    WD P Q (pre ++ x :: post) rs es t w → ∃ u, Y P x t w u ∧ (x.kd t = .read → ∀ e ∈ es, e.1 ∈ x.u → Y P x t e.2 u) ∧ WD P Q (pre ++ post) rs es (put t x.d u) w
  | [], _, rs, es, t, w, hx, h => by
    rw [List.nil_append, WD_cons] at h
    obtain ⟨u, hu, h1, h2⟩ := Y.of hx h
    refine ⟨u, hu, fun hr e he hm => ?_, ?_⟩
    · unfold noteOk at h1; rw [hr] at h1; exact h1 e he hm
    · refine WD_mono post _ _ ?_ ?_ h2
      · unfold noteR
        cases x.kd t with
        | read => exact fun r hm => List.mem_cons_of_mem _ hm
        | _ => exact fun r hm => hm
      · unfold noteE
        cases hk : x.kd t with
        | eff => exact absurd hk hx
        | _ => exact fun r hm => hm
  | y :: pre, hi, rs, es, t, w, hx, h => by
    have hyx := hi y List.mem_cons_self
    have hkx' : ∀ v, x.kd (put t y.d v) = x.kd t := fun v => kd_put t v hyx.yx
    have hky' : ∀ v, y.kd (put t x.d v) = y.kd t := fun v => kd_put t v hyx.xy
    rw [List.cons_append, WD_cons] at h
    -- at each outcome of y
    have ih : ∀ v w1, (noteOk P y t rs es v w1 ∧ WD P Q (pre ++ x :: post) (noteR P y t rs v) (noteE y t es w) (put t y.d v) w1) → noteOk P y t rs es v w1 ∧ ∃ u, Y P x (put t y.d v) w1 u ∧ (x.kd t = .read → ∀ e ∈ noteE y t es w, e.1 ∈ x.u → Y P x (put t y.d v) e.2 u) ∧ WD P Q (pre ++ post) (noteR P y t rs v) (noteE y t es w) (put (put t y.d v) x.d u) w1 :=
      fun v w1 ⟨h1, h2⟩ => ⟨h1, by have := WD_front post pre (fun z hz => hi z (List.mem_cons_of_mem _ hz)) _ _ _ _ (by rw [hkx' v]; exact hx) h2; rwa [hkx' v] at this⟩
    have h' := stepD_mono ih h
    -- x has its value already ahead of y
    have back : ∀ v w1 u, (y.kd t ≠ .eff → w1 = w) → Y P x (put t y.d v) w1 u → (x.kd t = .read → ∀ e ∈ noteE y t es w, e.1 ∈ x.u → Y P x (put t y.d v) e.2 u) → Y P x t w u := by
      intro v w1 u hw1 hY hR
      have hput : ∀ w2, Y P x (put t y.d v) w2 u = Y P x t w2 u := fun w2 => stepD_put P t v hyx.yx w2 _
      cases hkx : x.kd t with
      | eff => exact absurd hkx hx
      | pure => rw [hput] at hY; exact (stepD_pureW P hkx w1 w (· = u)).1 hY
      | read =>
        cases hky : y.kd t with
        | eff =>
          have := hR hkx (y.n, w) (by unfold noteE; rw [hky]; exact List.mem_cons_self) (hyx.er (kd_eff hky) (kd_read hkx))
          rwa [hput] at this
        | pure => rw [hw1 (by rw [hky]; decide), hput] at hY; exact hY
        | read => rw [hw1 (by rw [hky]; decide), hput] at hY; exact hY
    -- one outcome fixes the value
    have h'' : stepD P y t w fun v w1 => noteOk P y t rs es v w1 ∧ (y.kd t ≠ .eff → w1 = w) ∧ ∃ u, Y P x t w u ∧ (x.kd t = .read → ∀ e ∈ noteE y t es w, e.1 ∈ x.u → Y P x t e.2 u) ∧ WD P Q (pre ++ post) (noteR P y t rs v) (noteE y t es w) (put (put t y.d v) x.d u) w1 := by
      by_cases hky : y.kd t = .eff
      · refine stepD_mono (fun v w1 ⟨h1, u, h2, h3, h4⟩ => ⟨h1, fun hn => absurd hky hn, u, back v w1 u (fun hn => absurd hky hn) h2 h3, fun hr e he hm => ?_, h4⟩) h'
        have := h3 hr e he hm
        rwa [show Y P x (put t y.d v) e.2 u = Y P x t e.2 u from stepD_put P t v hyx.yx e.2 _] at this
      · obtain ⟨v, hv, h1, u, h2, h3, h4⟩ := Y.of hky h'
        refine Y.step hky hv ⟨h1, fun _ => rfl, u, back v w u (fun _ => rfl) h2 h3, fun hr e he hm => ?_, h4⟩
        have := h3 hr e he hm
        rwa [show Y P x (put t y.d v) e.2 u = Y P x t e.2 u from stepD_put P t v hyx.yx e.2 _] at this
    obtain ⟨v0, w0, _, _, u, hu, hru, _⟩ := stepD_feas h''
    refine ⟨u, hu, fun hr e he hm => hru hr e ?_ hm, ?_⟩
    · unfold noteE
      cases y.kd t with
      | eff => exact List.mem_cons_of_mem _ he
      | _ => exact he
    · rw [List.cons_append, WD_cons, show (stepD P y (put t x.d u) w) = (stepD P y t w) from funext fun K => stepD_put P t u hyx.xy w K]
      refine stepD_mono (fun v w1 ⟨h1, h2, u', h3, h4, h5⟩ => ?_) h''
      have hu' : u' = u := Y.uniq hx h3 hu
      subst hu'
      have eY : ∀ w2 v2, Y P y (put t x.d u') w2 v2 = Y P y t w2 v2 := fun w2 v2 => stepD_put P t u' hyx.xy w2 _
      refine ⟨?_, ?_⟩
      · unfold noteOk at *
        rw [hky' u']
        cases hk : y.kd t with
        | pure => trivial
        | read => rw [hk] at h1; intro e he hm; simp only [eY]; exact h1 e he hm
        | eff => rw [hk] at h1; exact h1
      · have e1 : noteR P y (put t x.d u') rs v = noteR P y t rs v := by
          unfold noteR
          rw [hky' u']
          cases y.kd t with
          | read => simp only [eY]
          | _ => rfl
        have e2 : noteE y (put t x.d u') es w = noteE y t es w := by unfold noteE; rw [hky' u']
        rw [e1, e2, ← put_comm v u' hyx.yd]
        exact h5

/-- What writes or calls is taken to the front of what does neither. -/
theorem WD_frontE {P : Program} {Q : T → World → Prop} {x : D} (post : List D) : ∀ (pre : List D) (hi : ∀ y ∈ pre, Ind y x) (rs : Logs) (es : Effs) (t : T) (w : World) (hx : x.kd t = .eff),
    WD P Q (pre ++ x :: post) rs es t w → stepD P x t w fun v w' => (∀ r ∈ rs, r.1 ∈ x.u → r.2 w') ∧ WD P Q (pre ++ post) rs es (put t x.d v) w'
  | [], _, rs, es, t, w, hx, h => by
    rw [List.nil_append, WD_cons] at h
    refine stepD_mono (fun v w' ⟨h1, h2⟩ => ⟨?_, WD_mono post _ _ ?_ ?_ h2⟩) h
    · unfold noteOk at h1; rw [hx] at h1; exact h1
    · unfold noteR; rw [hx]; exact fun r hm => hm
    · unfold noteE; rw [hx]; exact fun r hm => List.mem_cons_of_mem _ hm
  | y :: pre, hi, rs, es, t, w, hx, h => by
    have hyx := hi y List.mem_cons_self
    have hkx' : ∀ v, x.kd (put t y.d v) = x.kd t := fun v => kd_put t v hyx.yx
    have hky' : ∀ v, y.kd (put t x.d v) = y.kd t := fun v => kd_put t v hyx.xy
    have hky : y.kd t ≠ .eff := fun e => hyx.ee (kd_eff e) (kd_eff hx)
    rw [List.cons_append, WD_cons] at h
    obtain ⟨u, hu, h1, h2⟩ := Y.of hky h
    have h3 := WD_frontE post pre (fun z hz => hi z (List.mem_cons_of_mem _ hz)) _ _ _ _ (by rw [hkx' u]; exact hx) h2
    rw [show (stepD P x (put t y.d u) w) = (stepD P x t w) from funext fun K => stepD_put P t u hyx.yx w K] at h3
    refine stepD_mono (fun v w' ⟨h4, h5⟩ => ⟨fun r hm => h4 r ?_, ?_⟩) h3
    · unfold noteR
      cases y.kd t with
      | read => exact List.mem_cons_of_mem _ hm
      | _ => exact hm
    · have eY : ∀ w2 v2, Y P y (put t x.d v) w2 v2 = Y P y t w2 v2 := fun w2 v2 => stepD_put P t v hyx.xy w2 _
      have hY : Y P y (put t x.d v) w' u := by
        rw [eY]
        cases hk : y.kd t with
        | eff => exact absurd hk hky
        | pure => exact (stepD_pureW P hk w w' (· = u)).1 hu
        | read => exact h4 (y.n, fun w₁ => Y P y t w₁ u) (by unfold noteR; rw [hk]; exact List.mem_cons_self) (hyx.re (kd_read hk) (kd_eff hx))
      rw [List.cons_append, WD_cons]
      refine Y.step (by rw [hky' v]; exact hky) hY ⟨?_, ?_⟩
      · unfold noteOk at *
        rw [hky' v]
        cases hk : y.kd t with
        | pure => trivial
        | read => rw [hk] at h1; intro e he hm; simp only [eY]; exact h1 e he hm
        | eff => exact absurd hk hky
      · have e1 : noteR P y (put t x.d v) rs u = noteR P y t rs u := by
          unfold noteR
          rw [hky' v]
          cases y.kd t with
          | read => simp only [eY]
          | _ => rfl
        have e2 : noteE y (put t x.d v) es w' = noteE y t es w := by
          unfold noteE
          rw [hky' v]
          cases hk : y.kd t with
          | eff => exact absurd hk hky
          | _ => rfl
        rw [e1, e2, ← put_comm u v hyx.yd]
        exact h5
end Go.Fw
