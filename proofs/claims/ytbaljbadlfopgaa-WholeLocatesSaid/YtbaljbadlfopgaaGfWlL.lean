import Derived.Test.YtbaljbadlfopgaaGfWhL
import Derived.Test.YtbaljbadlfopgaaGfXL
import Derived.Test.YtbaljbadlfopgaaGfML
set_option linter.all false
/- The locator: products of differences by sums of logarithms. Plain maths. -/
set_option linter.unusedVariables false
set_option linter.unusedSimpArgs false
namespace Go.Fw
/-- The marks of a list of places. -/
def mk (l : List Nat) (j : Nat) : Nat := if j ∈ l then 1 else 0
theorem nsum_add (f g : Nat → Nat) : ∀ m, nsum (fun i => f i + g i) m = nsum f m + nsum g m
  | 0 => rfl
  | m + 1 => by show nsum _ m + (f m + g m) = nsum f m + f m + (nsum g m + g m); rw [nsum_add f g m]; omega
theorem nsum_zero : ∀ m, nsum (fun _ => 0) m = 0
  | 0 => rfl
  | m + 1 => by show nsum _ m + 0 = 0; rw [nsum_zero m]
theorem nsum_one (h : Nat → Nat) (e : Nat) : ∀ m, nsum (fun j => (if j = e then 1 else 0) * h j) m = if e < m then h e else 0
  | 0 => rfl
  | m + 1 => by
    show nsum _ m + (if m = e then 1 else 0) * h m = _
    rw [nsum_one h e m]
    by_cases c : m = e
    · subst c; rw [if_neg (by omega), if_pos rfl, if_pos (by omega)]; omega
    · rw [if_neg c]
      by_cases c2 : e < m
      · rw [if_pos c2, if_pos (by omega)]; omega
      · rw [if_neg c2, if_neg (by omega)]; omega
def lsum (h : Nat → Nat) : List Nat → Nat
  | [] => 0
  | e :: l => h e + lsum h l
theorem nsum_mk (h : Nat → Nat) (N : Nat) : ∀ l : List Nat, l.Nodup → (∀ e ∈ l, e < N) → nsum (fun j => mk l j * h j) N = lsum h l
  | [], _, _ => by
    have : (fun j => mk [] j * h j) = fun _ => 0 := funext fun j => by unfold mk; simp
    rw [this, nsum_zero]; rfl
  | e :: l, hd, hl => by
    obtain ⟨h1, h2⟩ := List.nodup_cons.1 hd
    have he := hl e (List.mem_cons_self ..)
    have : (fun j => mk (e :: l) j * h j) = fun j => (if j = e then 1 else 0) * h j + mk l j * h j := funext fun j => by
      unfold mk
      by_cases c : j = e
      · subst c; simp [h1]
      · simp [c]
    rw [this, nsum_add, nsum_one, if_pos he, nsum_mk h N l h2 fun e he => hl e (List.mem_cons_of_mem _ he)]
    rfl
/-- The product over the places but one's own. -/
def pl (i : Nat) : List Nat → El 16
  | [] => 1
  | e :: l => (if e = i then 1 else wel e + wel i) * pl i l
theorem gq_lsum (h : Nat → Nat) (i : Nat) : ∀ l : List Nat, (∀ e ∈ l, (⟨gq (h e)⟩ : El 16) = if e = i then 1 else wel e + wel i) → (⟨gq (lsum h l)⟩ : El 16) = pl i l
  | [], _ => rfl
  | e :: l, hl => by
    show (⟨gq (h e + lsum h l)⟩ : El 16) = _ * pl i l
    rw [← mul_gq, hl e (List.mem_cons_self ..), gq_lsum h i l fun e he => hl e (List.mem_cons_of_mem _ he)]
theorem xor_zero_eq {a b : Nat} (h : a ^^^ b = 0) : a = b := by
  have : a ^^^ b ^^^ b = b := by rw [h, Nat.zero_xor]
  rwa [Nat.xor_assoc, Nat.xor_self, Nat.xor_zero] at this
theorem loc_law (r : Nat) (hr : r ≤ 16) (l : List Nat) (hd : l.Nodup) (hl : ∀ e ∈ l, e < 2 ^ r) (g : Nat → Nat) (g0 : g 0 = 0) (hg : ∀ x, 0 < x → x < 2 ^ r → gq (g x) = (wel x).v) (i : Nat) (hi : i < 2 ^ r) :
    (⟨gq (md (cv r (fun j => (mk l j : Int)) (fun j => (g j : Int)) i))⟩ : El 16) = pl i l := by
  rw [cv_nsum r (mk l) g i hi, md_nat, gq_wrap, nsum_mk (fun j => g (i ^^^ j)) (2 ^ r) l hd hl]
  refine gq_lsum _ i l fun e he => ?_
  have hx := Nat.xor_lt_two_pow hi (hl e he)
  by_cases c : e = i
  · rw [if_pos c, c]
    rw [Nat.xor_self, g0]; rfl
  · rw [if_neg c]
    have hne : i ^^^ e ≠ 0 := fun h => c (xor_zero_eq h).symm
    have := hg (i ^^^ e) (by omega) hx
    rw [← wel_xor, Nat.xor_comm e i]
    exact El.ext this
theorem pl_snoc (i e : Nat) : ∀ l : List Nat, pl i (l ++ [e]) = pl i l * (if e = i then 1 else wel e + wel i)
  | [] => by show _ * (1 : El 16) = 1 * _; rw [El.mul_one, El.one_mul]
  | a :: l => by show _ * pl i (l ++ [e]) = _ * pl i l * _; rw [pl_snoc i e l, El.mul_assoc]
theorem loc_vps (i : Nat) (hi : i < 65536) (l : List Nat) : (l.Nodup) → (∀ e ∈ l, e < 65536) →
    (i ∉ l → evn (vps (l.map wel)) (wel i) (l.length + 1) = pl i l) ∧ (i ∈ l → evn (vps (l.map wel)).D (wel i) (l.length + 1) = pl i l) := by
  refine snoc_ind (P := fun l : List Nat => l.Nodup → (∀ e ∈ l, e < 65536) → (i ∉ l → evn (vps (l.map wel)) (wel i) (l.length + 1) = pl i l) ∧ (i ∈ l → evn (vps (l.map wel)).D (wel i) (l.length + 1) = pl i l)) ?_ ?_ l
  · intro _ _
    refine ⟨fun _ => ?_, fun h => absurd h (by simp)⟩
    show (1 : El 16) + wel i * 0 = 1
    rw [El.mul_zero, El.add_zero]
  · intro l e ih hd hl
    obtain ⟨hd1, hd2, hd3⟩ := List.nodup_append.1 hd
    have hel : e ∉ l := fun h => hd3 e h e (by simp) rfl
    have he := hl e (by simp)
    obtain ⟨i1, i2⟩ := ih hd1 fun x hx => hl x (by simp [hx])
    have hdg := vps_dg (l.map wel)
    rw [List.length_map] at hdg
    rw [List.map_append, List.map_singleton, vps_snoc, List.length_append, List.length_singleton, pl_snoc]
    constructor
    · intro hn
      have h1 : i ∉ l := fun h => hn (by simp [h])
      have h2 : e ≠ i := fun h => hn (by simp [h])
      rw [ev_lin_mul _ _ hdg, i1 h1, if_neg h2, El.mul_comm]
    · intro hm
      rw [Ps.D_mul, Ps.D_lin, Ps.one_mul, evn_add, ev_lin_mul _ _ hdg.D, evn_eq (hdg.mono (Nat.le_succ _)) hdg]
      by_cases c : e = i
      · rw [if_pos c, c, El.add_self, El.zero_mul, El.add_zero, El.mul_one, i1 (c ▸ hel)]
      · have h1 : i ∈ l := by
          rcases List.mem_append.1 hm with h | h
          · exact h
          · exact absurd (List.mem_singleton.1 h).symm c
        have hz := (ev_vps_zero (wel i) (l.map wel)).2 (List.mem_map.2 ⟨i, h1, rfl⟩)
        rw [List.length_map] at hz
        rw [if_neg c, hz, i2 h1, El.zero_add, El.mul_comm]
end Go.Fw
