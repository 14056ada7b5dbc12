import Derived.Test.YtbaljbadlfopgaaProg
import Derived.Test.YtbaljbadlfopgaaFwTQ
import Derived.Test.YtbaljbadlfopgaaSRZ2Q
set_option linter.all false
set_option linter.unusedVariables false
set_option linter.unusedSimpArgs false
set_option maxRecDepth 100000
set_option maxHeartbeats 1000000
namespace Go.Proofs.Ytbaljbadlfopgaa.Fw
open Go Go.Fw Go.Proofs
attribute [local irreducible] stepI
def c_culletref19_Shards : C := .seq (.ops [⟨0,some 8,none,.mov (.c (.slice none 0 0)),[]⟩,⟨1,some 9,none,.mov (.c (.slice none 0 0)),[]⟩,⟨2,some 10,none,.mov (.c (.int .i64 0)),[]⟩]) (.seq (.ops [⟨0,some 31,none,.mov (.t 3),[]⟩,⟨1,some 32,none,.len (.t 31),[]⟩,⟨2,some 33,none,.mks 25 24 [.slice none 0 0] (.t 32) (.t 32),[]⟩,⟨3,some 11,none,.mov (.t 33),[]⟩]) (.seq (.seq (.ops [⟨0,some 12,none,.mov (.c (.int .i64 0)),[]⟩]) (.block 0 (.loop (.seq (.seq (.ops [⟨0,some 34,none,.mov (.t 12),[]⟩,⟨1,some 35,none,.mov (.t 3),[]⟩,⟨2,some 36,none,.len (.t 35),[]⟩,⟨3,some 37,none,.bin .lss (.t 34) (.t 36),[]⟩]) (.ite (.t 37) .skip (.exit 0))) (.seq (.block 1 (.ops [⟨0,some 40,none,.mov (.t 11),[]⟩,⟨1,some 41,none,.mov (.t 12),[]⟩,⟨2,some 42,none,.bsl 5 0 [.int .u8 0] [],[]⟩,⟨3,some 43,none,.mov (.t 3),[]⟩,⟨4,some 44,none,.mov (.t 12),[]⟩,⟨5,some 45,none,.ixs 1 (.t 43) (.t 44),[]⟩,⟨6,some 46,none,.ld (.t 45),[]⟩,⟨7,some 47,none,.app 5 1 [.int .u8 0] (.t 42) (.t 46),[]⟩,⟨8,some 48,none,.ixs 1 (.t 40) (.t 41),[]⟩,⟨9,none,none,.st (.t 48) (.t 47),[]⟩])) (.ops [⟨0,some 38,none,.mov (.t 12),[]⟩,⟨1,some 39,none,.bin .add (.t 38) (.c (.int .i64 1)),[]⟩,⟨2,some 12,none,.mov (.t 39),[]⟩])))))) (.seq (.seq (.ops [⟨0,some 49,none,.mov (.t 0),[]⟩,⟨1,some 50,none,.bin .neq (.t 49) (.c (.int .i64 0)),[]⟩,⟨2,some 51,none,.mov (.t 50),[]⟩,⟨3,some 52,(some (51,true)),.mov (.t 0),[]⟩,⟨4,some 53,(some (51,true)),.bin .neq (.t 52) (.c (.int .i64 1)),[]⟩,⟨5,some 54,none,.pick (.t 51) (.t 53) (.c (.bool false)),[]⟩]) (.ite (.t 54) (.seq (.ops [⟨0,some 55,none,.mov (.t 11),[]⟩,⟨1,some 8,none,.mov (.t 55),[]⟩,⟨2,some 9,none,.mov (.c (.slice none 0 0)),[]⟩,⟨3,some 10,none,.mov (.c (.int .i64 2)),[]⟩]) .ret) .skip)) (.seq (.ops [⟨0,some 57,none,.mov (.t 0),[]⟩,⟨1,some 58,none,.mov (.t 1),[]⟩,⟨2,some 59,none,.mov (.t 2),[]⟩,⟨3,some 60,none,.mov (.t 3),[]⟩,⟨4,some 61,none,.call (.c (.func (.func 62) #[] #[])) [.t 57,.t 58,.t 59,.t 60],[]⟩,⟨5,some 56,none,.mov (.t 61),[]⟩,⟨6,some 62,none,.ext (.t 56) 0,[]⟩,⟨7,some 63,none,.ext (.t 56) 1,[]⟩,⟨8,some 64,none,.ext (.t 56) 2,[]⟩,⟨9,some 13,none,.mov (.t 62),[]⟩,⟨10,some 14,none,.mov (.t 63),[]⟩,⟨11,some 15,none,.mov (.t 64),[]⟩]) (.seq (.seq (.ops [⟨0,some 65,none,.mov (.t 15),[]⟩,⟨1,some 66,none,.bin .neq (.t 65) (.c (.int .i64 0)),[]⟩]) (.ite (.t 66) (.seq (.ops [⟨0,some 67,none,.mov (.t 11),[]⟩,⟨1,some 68,none,.mov (.t 15),[]⟩,⟨2,some 8,none,.mov (.t 67),[]⟩,⟨3,some 9,none,.mov (.c (.slice none 0 0)),[]⟩,⟨4,some 10,none,.mov (.t 68),[]⟩]) .ret) .skip)) (.seq (.ops [⟨0,some 69,none,.mov (.t 1),[]⟩,⟨1,some 70,none,.mov (.t 2),[]⟩,⟨2,some 71,none,.bin .add (.t 69) (.t 70),[]⟩,⟨3,some 72,none,.mks 25 24 [.slice none 0 0] (.t 71) (.t 71),[]⟩,⟨4,some 16,none,.mov (.t 72),[]⟩]) (.seq (.seq (.ops [⟨0,some 17,none,.mov (.c (.int .i64 0)),[]⟩]) (.block 2 (.loop (.seq (.seq (.ops [⟨0,some 73,none,.mov (.t 17),[]⟩,⟨1,some 74,none,.mov (.t 1),[]⟩,⟨2,some 75,none,.mov (.t 2),[]⟩,⟨3,some 76,none,.bin .add (.t 74) (.t 75),[]⟩,⟨4,some 77,none,.bin .lss (.t 73) (.t 76),[]⟩]) (.ite (.t 77) .skip (.exit 2))) (.seq (.block 3 (.ops [⟨0,some 80,none,.mov (.t 16),[]⟩,⟨1,some 81,none,.mov (.t 17),[]⟩,⟨2,some 82,none,.mov (.t 13),[]⟩,⟨3,some 83,none,.mks 5 1 [.int .u8 0] (.t 82) (.t 82),[]⟩,⟨4,some 84,none,.ixs 1 (.t 80) (.t 81),[]⟩,⟨5,none,none,.st (.t 84) (.t 83),[]⟩])) (.ops [⟨0,some 78,none,.mov (.t 17),[]⟩,⟨1,some 79,none,.bin .add (.t 78) (.c (.int .i64 1)),[]⟩,⟨2,some 17,none,.mov (.t 79),[]⟩])))))) (.seq (.ops [⟨0,some 18,none,.mov (.c (.slice none 0 0)),[]⟩]) (.seq (.ops [⟨0,some 19,none,.mov (.c (.int .i64 0)),[]⟩]) (.seq (.seq (.ops [⟨0,some 20,none,.mov (.c (.int .i64 0)),[]⟩]) (.block 4 (.loop (.seq (.seq (.ops [⟨0,some 85,none,.mov (.t 20),[]⟩,⟨1,some 86,none,.mov (.t 1),[]⟩,⟨2,some 87,none,.mov (.t 2),[]⟩,⟨3,some 88,none,.bin .add (.t 86) (.t 87),[]⟩,⟨4,some 89,none,.bin .lss (.t 85) (.t 88),[]⟩]) (.ite (.t 89) .skip (.exit 4))) (.seq (.block 5 (.seq (.ops [⟨0,some 92,none,.mov (.t 19),[]⟩,⟨1,some 93,none,.mov (.t 14),[]⟩,⟨2,some 94,none,.len (.t 93),[]⟩,⟨3,some 95,none,.bin .lss (.t 92) (.t 94),[]⟩,⟨4,some 96,none,.mov (.t 95),[]⟩,⟨5,some 97,(some (96,true)),.mov (.t 14),[]⟩,⟨6,some 98,(some (96,true)),.mov (.t 19),[]⟩,⟨7,some 99,(some (96,true)),.ixs 1 (.t 97) (.t 98),[]⟩,⟨8,some 100,(some (96,true)),.ld (.t 99),[]⟩,⟨9,some 101,(some (96,true)),.mov (.t 20),[]⟩,⟨10,some 102,(some (96,true)),.bin .eql (.t 100) (.t 101),[]⟩,⟨11,some 103,none,.pick (.t 96) (.t 102) (.c (.bool false)),[]⟩]) (.ite (.t 103) (.ops [⟨0,some 104,none,.mov (.t 19),[]⟩,⟨1,some 105,none,.bin .add (.t 104) (.c (.int .i64 1)),[]⟩,⟨2,some 19,none,.mov (.t 105),[]⟩]) (.ops [⟨0,some 106,none,.mov (.t 18),[]⟩,⟨1,some 107,none,.mov (.t 20),[]⟩,⟨2,some 108,none,.bsl 3 1 [.int .i64 0] [(0,(1,.t 107))],[]⟩,⟨3,some 109,none,.app 3 8 [.int .i64 0] (.t 106) (.t 108),[]⟩,⟨4,some 18,none,.mov (.t 109),[]⟩])))) (.ops [⟨0,some 90,none,.mov (.t 20),[]⟩,⟨1,some 91,none,.bin .add (.t 90) (.c (.int .i64 1)),[]⟩,⟨2,some 20,none,.mov (.t 91),[]⟩])))))) (.seq (.ops [⟨0,some 110,none,.mov (.t 1),[]⟩,⟨1,some 111,none,.mov (.t 2),[]⟩,⟨2,some 112,none,.bin .add (.t 110) (.t 111),[]⟩,⟨3,some 113,none,.mks 4 1 [.bool false] (.t 112) (.t 112),[]⟩,⟨4,some 21,none,.mov (.t 113),[]⟩]) (.seq (.seq (.ops [⟨0,some 22,none,.mov (.c (.int .i64 0)),[]⟩]) (.block 6 (.loop (.seq (.seq (.ops [⟨0,some 114,none,.mov (.t 22),[]⟩,⟨1,some 115,none,.mov (.t 13),[]⟩,⟨2,some 116,none,.bin .lss (.t 114) (.t 115),[]⟩]) (.ite (.t 116) .skip (.exit 6))) (.seq (.block 7 (.seq (.ops [⟨0,some 119,none,.mov (.t 18),[]⟩,⟨1,some 120,none,.len (.t 119),[]⟩,⟨2,some 121,none,.mks 5 1 [.int .u8 0] (.t 120) (.t 120),[]⟩,⟨3,some 23,none,.mov (.t 121),[]⟩]) (.seq (.seq (.ops [⟨0,some 24,none,.mov (.c (.int .i64 0)),[]⟩]) (.block 8 (.loop (.seq (.seq (.ops [⟨0,some 122,none,.mov (.t 24),[]⟩,⟨1,some 123,none,.mov (.t 18),[]⟩,⟨2,some 124,none,.len (.t 123),[]⟩,⟨3,some 125,none,.bin .lss (.t 122) (.t 124),[]⟩]) (.ite (.t 125) .skip (.exit 8))) (.seq (.block 9 (.ops [⟨0,some 128,none,.mov (.t 23),[]⟩,⟨1,some 129,none,.mov (.t 24),[]⟩,⟨2,some 130,none,.mov (.t 3),[]⟩,⟨3,some 131,none,.mov (.t 18),[]⟩,⟨4,some 132,none,.mov (.t 24),[]⟩,⟨5,some 133,none,.ixs 1 (.t 131) (.t 132),[]⟩,⟨6,some 134,none,.ld (.t 133),[]⟩,⟨7,some 135,none,.ixs 1 (.t 130) (.t 134),[]⟩,⟨8,some 136,none,.ld (.t 135),[]⟩,⟨9,some 137,none,.mov (.t 22),[]⟩,⟨10,some 138,none,.ixs 1 (.t 136) (.t 137),[]⟩,⟨11,some 139,none,.ld (.t 138),[]⟩,⟨12,some 140,none,.ixs 1 (.t 128) (.t 129),[]⟩,⟨13,none,none,.st (.t 140) (.t 139),[]⟩])) (.ops [⟨0,some 126,none,.mov (.t 24),[]⟩,⟨1,some 127,none,.bin .add (.t 126) (.c (.int .i64 1)),[]⟩,⟨2,some 24,none,.mov (.t 127),[]⟩])))))) (.seq (.ops [⟨0,some 142,none,.mov (.t 0),[]⟩,⟨1,some 143,none,.mov (.t 1),[]⟩,⟨2,some 144,none,.mov (.t 2),[]⟩,⟨3,some 145,none,.mov (.t 18),[]⟩,⟨4,some 146,none,.mov (.t 23),[]⟩,⟨5,some 147,none,.call (.c (.func (.func 63) #[] #[])) [.t 142,.t 143,.t 144,.t 145,.t 146],[]⟩,⟨6,some 141,none,.mov (.t 147),[]⟩,⟨7,some 148,none,.ext (.t 141) 0,[]⟩,⟨8,some 149,none,.ext (.t 141) 1,[]⟩,⟨9,some 25,none,.mov (.t 148),[]⟩,⟨10,some 26,none,.mov (.t 149),[]⟩]) (.seq (.seq (.ops [⟨0,some 150,none,.mov (.t 26),[]⟩,⟨1,some 151,none,.un .not (.t 150),[]⟩]) (.ite (.t 151) (.seq (.ops [⟨0,some 152,none,.mov (.t 11),[]⟩,⟨1,some 8,none,.mov (.t 152),[]⟩,⟨2,some 9,none,.mov (.c (.slice none 0 0)),[]⟩,⟨3,some 10,none,.mov (.c (.int .i64 190)),[]⟩]) .ret) .skip)) (.seq (.seq (.ops [⟨0,some 27,none,.mov (.c (.int .i64 0)),[]⟩]) (.block 10 (.loop (.seq (.seq (.ops [⟨0,some 153,none,.mov (.t 27),[]⟩,⟨1,some 154,none,.mov (.t 1),[]⟩,⟨2,some 155,none,.mov (.t 2),[]⟩,⟨3,some 156,none,.bin .add (.t 154) (.t 155),[]⟩,⟨4,some 157,none,.bin .lss (.t 153) (.t 156),[]⟩]) (.ite (.t 157) .skip (.exit 10))) (.seq (.block 11 (.dops [⟨0,some 160,none,.mov (.t 16),[]⟩,⟨1,some 161,none,.mov (.t 27),[]⟩,⟨2,some 162,none,.ixs 1 (.t 160) (.t 161),[]⟩,⟨3,some 163,none,.ld (.t 162),[]⟩,⟨4,some 164,none,.mov (.t 22),[]⟩,⟨5,some 165,none,.mov (.t 25),[]⟩,⟨6,some 166,none,.mov (.t 27),[]⟩,⟨7,some 167,none,.ixs 1 (.t 165) (.t 166),[]⟩,⟨8,some 168,none,.ld (.t 167),[]⟩,⟨9,some 169,none,.ixs 1 (.t 163) (.t 164),[]⟩,⟨10,none,none,.st (.t 169) (.t 168),[]⟩])) (.ops [⟨0,some 158,none,.mov (.t 27),[]⟩,⟨1,some 159,none,.bin .add (.t 158) (.c (.int .i64 1)),[]⟩,⟨2,some 27,none,.mov (.t 159),[]⟩])))))) (.seq (.ops [⟨0,some 28,none,.mov (.c (.int .i64 0)),[]⟩]) (.block 12 (.loop (.seq (.seq (.ops [⟨0,some 170,none,.mov (.t 28),[]⟩,⟨1,some 171,none,.mov (.t 18),[]⟩,⟨2,some 172,none,.len (.t 171),[]⟩,⟨3,some 173,none,.bin .lss (.t 170) (.t 172),[]⟩]) (.ite (.t 173) .skip (.exit 12))) (.seq (.block 13 (.seq (.dops [⟨0,some 176,none,.mov (.t 25),[]⟩,⟨1,some 177,none,.mov (.t 18),[]⟩,⟨2,some 178,none,.mov (.t 28),[]⟩,⟨3,some 179,none,.ixs 1 (.t 177) (.t 178),[]⟩,⟨4,some 180,none,.ld (.t 179),[]⟩,⟨5,some 181,none,.ixs 1 (.t 176) (.t 180),[]⟩,⟨6,some 182,none,.ld (.t 181),[]⟩,⟨7,some 183,none,.mov (.t 23),[]⟩,⟨8,some 184,none,.mov (.t 28),[]⟩,⟨9,some 185,none,.ixs 1 (.t 183) (.t 184),[]⟩,⟨10,some 186,none,.ld (.t 185),[]⟩,⟨11,some 187,none,.bin .neq (.t 182) (.t 186),[]⟩]) (.ite (.t 187) (.ops [⟨0,some 188,none,.mov (.t 21),[]⟩,⟨1,some 189,none,.mov (.t 18),[]⟩,⟨2,some 190,none,.mov (.t 28),[]⟩,⟨3,some 191,none,.ixs 1 (.t 189) (.t 190),[]⟩,⟨4,some 192,none,.ld (.t 191),[]⟩,⟨5,some 193,none,.ixs 1 (.t 188) (.t 192),[]⟩,⟨6,none,none,.st (.t 193) (.c (.bool true)),[]⟩]) .skip))) (.ops [⟨0,some 174,none,.mov (.t 28),[]⟩,⟨1,some 175,none,.bin .add (.t 174) (.c (.int .i64 1)),[]⟩,⟨2,some 28,none,.mov (.t 175),[]⟩])))))))))))) (.ops [⟨0,some 117,none,.mov (.t 22),[]⟩,⟨1,some 118,none,.bin .add (.t 117) (.c (.int .i64 1)),[]⟩,⟨2,some 22,none,.mov (.t 118),[]⟩])))))) (.seq (.ops [⟨0,some 29,none,.mov (.c (.slice none 0 0)),[]⟩]) (.seq (.seq (.ops [⟨0,some 30,none,.mov (.c (.int .i64 0)),[]⟩]) (.block 14 (.loop (.seq (.seq (.ops [⟨0,some 194,none,.mov (.t 30),[]⟩,⟨1,some 195,none,.mov (.t 1),[]⟩,⟨2,some 196,none,.mov (.t 2),[]⟩,⟨3,some 197,none,.bin .add (.t 195) (.t 196),[]⟩,⟨4,some 198,none,.bin .lss (.t 194) (.t 197),[]⟩]) (.ite (.t 198) .skip (.exit 14))) (.seq (.block 15 (.seq (.ops [⟨0,some 201,none,.mov (.t 21),[]⟩,⟨1,some 202,none,.mov (.t 30),[]⟩,⟨2,some 203,none,.ixs 1 (.t 201) (.t 202),[]⟩,⟨3,some 204,none,.ld (.t 203),[]⟩]) (.ite (.t 204) (.ops [⟨0,some 205,none,.mov (.t 29),[]⟩,⟨1,some 206,none,.mov (.t 30),[]⟩,⟨2,some 207,none,.bsl 3 1 [.int .i64 0] [(0,(1,.t 206))],[]⟩,⟨3,some 208,none,.app 3 8 [.int .i64 0] (.t 205) (.t 207),[]⟩,⟨4,some 29,none,.mov (.t 208),[]⟩]) .skip))) (.ops [⟨0,some 199,none,.mov (.t 30),[]⟩,⟨1,some 200,none,.bin .add (.t 199) (.c (.int .i64 1)),[]⟩,⟨2,some 30,none,.mov (.t 200),[]⟩])))))) (.seq (.ops [⟨0,some 209,none,.mov (.t 16),[]⟩,⟨1,some 210,none,.mov (.t 29),[]⟩,⟨2,some 8,none,.mov (.t 209),[]⟩,⟨3,some 9,none,.mov (.t 210),[]⟩,⟨4,some 10,none,.mov (.c (.int .i64 0)),[]⟩]) .ret)))))))))))))))
attribute [irreducible] c_culletref19_Shards
theorem run_culletref19_Shards {args : List Value} {w : World} {K : Value → World → Prop} (hn : args.length ≤ 211) (h : WP Try.prog c_culletref19_Shards (endQ [.t 8, .t 9, .t 10] K) (initT args) w) : CallV Try.prog 28 args w K :=
  call_of follows Try.func28 (by kernel_rfl) (by kernel_rfl) hn h
end Go.Proofs.Ytbaljbadlfopgaa.Fw
namespace Go.Proofs.Ytbaljbadlfopgaa.Fw
open Go Go.Fw
theorem misL_succ (L : Nat → Nat) (n : Nat) : misL L (n + 1) = if L n = 0 then misL L n ++ [n] else misL L n := by
  unfold misL
  rw [List.range_succ, List.filter_append]
  by_cases h : L n = 0
  · rw [if_pos h]; simp [h]
  · rw [if_neg h]; simp [h]
theorem misL_idx (L : Nat → Nat) {s : Nat} (hs : L s = 0) : ∀ n, s < n → ∃ h : (misL L s).length < (misL L n).length, (misL L n)[(misL L s).length] = s
  | 0, h => absurd h (Nat.not_lt_zero _)
  | n + 1, h => by
    have e := misL_succ L n
    by_cases hn : s = n
    · subst hn
      rw [if_pos hs] at e
      refine ⟨by rw [e, List.length_append]; simp, ?_⟩
      simp only [e]
      exact List.getElem_concat_length rfl _
    · obtain ⟨h1, h2⟩ := misL_idx L hs n (by omega)
      split at e
      · refine ⟨by rw [e, List.length_append]; omega, ?_⟩
        simp only [e]
        rw [List.getElem_append_left h1]
        exact h2
      · exact ⟨by rw [e]; exact h1, by simp only [e]; exact h2⟩
theorem zis_at (L : Nat → Nat) {i n : Nat} (hi : i < n) (hq : (zis L i).length < (zis L n).length) : (L i = 0 → (zis L n)[(zis L i).length] = (i : Int)) ∧ (L i ≠ 0 → (zis L n)[(zis L i).length] ≠ (i : Int)) := by
  have l1 : (zis L i).length = (misL L i).length := List.length_map ..
  have l2 : (zis L n).length = (misL L n).length := List.length_map ..
  have hq' : (zis L i).length < (misL L n).length := by omega
  have e : (zis L n)[(zis L i).length] = (((misL L n)[(zis L i).length] : Nat) : Int) := List.getElem_map ..
  rw [e]
  constructor
  · intro h
    obtain ⟨h1, h2⟩ := misL_idx L h n hi
    have : (misL L n)[(zis L i).length] = (misL L n)[(misL L i).length] := by congr 1
    rw [this, h2]
  · intro h e2
    have := (misL_mem.1 (List.getElem_mem hq')).2
    have e3 : (misL L n)[(zis L i).length] = i := by omega
    rw [e3] at this
    exact h this
theorem zis_lt (L : Nat → Nat) {i n : Nat} (hi : i < n) (h : L i = 0) : (zis L i).length < (zis L n).length := by
  obtain ⟨h1, -⟩ := misL_idx L h n hi
  have l1 : (zis L i).length = (misL L i).length := List.length_map ..
  have l2 : (zis L n).length = (misL L n).length := List.length_map ..
  omega
theorem ShM.grO {B : Nat} {F : World → Prop} {Df : Nat → Prop} {Tm : Nat → List (El 8)} {v : Value} {hs : List Hd} {R : Nat → List (El 8)} {w w' : World} (hF : Frm F Df) (h : ShM B F Tm v hs R w) {c : Nat} (hg : w.grownBy w' (some c)) (hD : Df c) (hv : Fw.blk v ≠ some c) (hr : ∀ j (hj : j < hs.length), R j ≠ [] → Fw.blk (Cell.v hs[j]) ≠ some c) : ShM B F Tm v hs R w' :=
  ⟨h.top.gr' hg fun x hx => by cases hx; exact hv, fun j hj hn => (h.row j hj hn).grown hg (hr j hj hn), h.emp, h.apv, h.apr, hF.gr _ _ c h.frm hD hg⟩
theorem XW_monoQ {P : Program} {i : I} {d : Option Nat} {l : List D} {t : T} {w : World} {Q Q' : T → World → Prop} (h : ∀ t w, Q t w → Q' t w) (hx : XW P i d l Q t w) : XW P i d l Q' t w := stepI_mono (fun _ _ hv => W_monoQ h l _ _ hv) hx
theorem plc_succ (L : Nat → Nat) (n : Nat) : plc L (n + 1) = if L n = 0 then plc L n else plc L n ++ [(n : Int)] := by
  unfold plc
  rw [prsL_succ]
  split
  · rfl
  · rw [List.map_append]; rfl
set_option maxHeartbeats 16000000 in
theorem culletref19_Shards_spec (w : World) (f k m : Int) (s : Value) (hs : List Hd) (R : Nat → List (El 8)) (h : Sl w s hs) (hr : ∀ j (hj : j < hs.length), Sl w (Cell.v hs[j]) (R j)) (hn : hs.length ≤ 1048576) (hl : ∀ j, j < hs.length → (R j).length ≤ 1048576) :
    CallV Try.prog 28 [.int .i64 f, .int .i64 k, .int .i64 m, s] w fun v w' => RowKit.Below w.heap.size w w' ∧ ∃ (len : Nat) (ev : Bool) (so : Value) (hs' : List Hd), hs'.length = hs.length ∧ (cnt f k m hs.length = 0 → Lns (hln hs) hs.length len ev) ∧
      ((wer f k m (hln hs) hs.length len ev ≠ 0 ∧ v = .tuple #[so, .slice none 0 0, .int .i64 (wer f k m (hln hs) hs.length len ev)] ∧ ShM w.heap.size (fun _ => True) (fun _ => []) so hs' R w') ∨
       (wer f k m (hln hs) hs.length len ev = 0 ∧ MOk f k m (hln hs) hs.length len ∧
         ((v = .tuple #[so, .slice none 0 0, .int .i64 190] ∧ ShM w.heap.size (fun _ => True) (fun _ => []) so hs' R w' ∧ ∃ t, t < len ∧ farS f k.toNat (hln hs) hs.length R t) ∨
          (∃ (sw : Value) (G : Nat → List (El 8)), v = .tuple #[so, sw, .int .i64 0] ∧ ShM w.heap.size (fun _ => True) (fun _ => []) so hs' (rowS f k.toNat G len) w' ∧ (∀ t, t < len → nearS f k.toNat (hln hs) hs.length R t (G t)) ∧
            Ow w.heap.size w' sw (((prsL (hln hs) hs.length).filter fun s => !decide (R s = rowS f k.toNat G len s)).map fun (j : Nat) => (j : Int)))))) := by
  have hlr : ∀ j, j < hs.length → hln hs j = (R j).length := fun j hj => hln_row hr hj
  refine run_culletref19_Shards (by simp) ?_
  simp only [c_culletref19_Shards, WS, ↓reduceIte, Nat.reduceEqDiff, reduceCtorEq, h.Xlen]
  refine X_mks (x := hdn) (n := hs.length) (by simp only [maxBytes]; omega) (by omega) fun sv w1 ov hB => ?_
  simp (maxSteps := 1000000) (disch := omega) only [WS, ↓reduceIte, Nat.reduceEqDiff, reduceCtorEq, AS]
  refine loop_of (fun t w' => t 0 = .int .i64 f ∧ t 1 = .int .i64 k ∧ t 2 = .int .i64 m ∧ t 3 = s ∧ t 11 = sv ∧ RowKit.Below w.heap.size w w' ∧ ∃ (i : Nat) (hs' : List Hd) (Rc : Nat → List (El 8)), t 12 = .int .i64 (i : Int) ∧ i ≤ hs.length ∧ hs'.length = hs.length ∧ (∀ j, j < hs.length → Rc j = if j < i then R j else []) ∧ ShM w.heap.size (fun _ => True) (fun _ => []) sv hs' Rc w') (fun t _ => hs.length - (toI (t 12)).toNat)
    ⟨by simp only [WS, ↓reduceIte, Nat.reduceEqDiff, reduceCtorEq], by simp only [WS, ↓reduceIte, Nat.reduceEqDiff, reduceCtorEq], by simp only [WS, ↓reduceIte, Nat.reduceEqDiff, reduceCtorEq], by simp only [WS, ↓reduceIte, Nat.reduceEqDiff, reduceCtorEq], by simp only [WS, ↓reduceIte, Nat.reduceEqDiff, reduceCtorEq], hB, 0, _, _, by simp only [WS, ↓reduceIte, Nat.reduceEqDiff, reduceCtorEq]; rfl, by omega, List.length_replicate .., fun j hj => by rw [if_neg (by omega)], ShM.fresh ov trivial⟩ ?_
  clear hB ov
  rintro t w2 ⟨t0, t1, t2, t3, t11, B, i, hsA, Rc, t12, hi, lhsA, hRc, hS⟩
  have z2 := B.size
  have h' := h.up B
  by_cases hil : i < hs.length
  · have hr' := (hr i hil).up B
    have hli := hl i hil
    simp (maxSteps := 1000000) (disch := omega) only [WS, ↓reduceIte, Nat.reduceEqDiff, reduceCtorEq, AS, t0, t1, t2, t3, t11, t12, h'.Xlen]
    refine X_bslE fun p0 w3 op hB0 => ?_
    have z3 := hB0.size
    simp (maxSteps := 1000000) (disch := omega) only [WS, ↓reduceIte, Nat.reduceEqDiff, reduceCtorEq, AS, t0, t1, t2, t3, t11, t12, (h'.up hB0).Xix hil, (h'.up hB0).Xld hil, cell_hd]
    refine op.Xapp (show Sl w3 (Value.slice hs[i].a hs[i].n hs[i].c) (R i) from hr'.up hB0) hB0 hB0.size (by simp only [maxBytes]; omega) (by decide) (by omega) fun c1 w4 oc hB _ => ?_
    have B := B.trans (hB.mono B.size)
    have hS4 := hS.up (frmT fun _ => True) hB
    have hcv : Cell.v (hd c1) = c1 := oc.sl.hd.1
    have hcn : (hd c1).n = (R i).length := oc.sl.hd.2
    have iS : i < hsA.length := by omega
    have hRci : Rc i = [] := by rw [hRc i hil, if_neg (by omega)]
    simp (maxSteps := 1000000) (disch := omega) only [WS, ↓reduceIte, Nat.reduceEqDiff, reduceCtorEq, AS, t0, t1, t2, t3, t11, t12, hS4.top.sl.Xix iS]
    rw [← hcv]
    by_cases he : R i = []
    · refine ShM.XputE (frmT fun _ => True) hS4 iS hRci (fun _ _ => trivial) (hd c1) (by rw [hcn, he]; rfl) fun w5 b hS5 hg hb => ?_
      have B := Below.app B B.size (s := sv) (by rw [hb]; exact hg) fun b' hb' => (hS4.top.blk b' hb').1
      simp (maxSteps := 1000000) (disch := omega) only [WS, ↓reduceIte, Nat.reduceEqDiff, reduceCtorEq, AS, t0, t1, t2, t3, t11, t12]
      refine ⟨⟨B, i + 1, _, Rc, rfl, by omega, by rw [List.length_set]; exact lhsA, fun j hj => ?_, hS5⟩, by omega⟩
      rw [hRc j hj]
      by_cases e : j = i
      · subst e; rw [if_neg (by omega), if_pos (by omega), he]
      · by_cases e2 : j < i
        · rw [if_pos e2, if_pos (by omega)]
        · rw [if_neg e2, if_neg (by omega)]
    · refine ShM.Xput (frmT fun _ => True) hS hS4 iS hRci rfl (fun _ _ => trivial) (hd c1) he (by rw [hcv]; exact oc) z2 fun w5 b hS5 hg hb => ?_
      have B := Below.app B B.size (s := sv) (by rw [hb]; exact hg) fun b' hb' => (hS4.top.blk b' hb').1
      simp (maxSteps := 1000000) (disch := omega) only [WS, ↓reduceIte, Nat.reduceEqDiff, reduceCtorEq, AS, t0, t1, t2, t3, t11, t12]
      refine ⟨⟨B, i + 1, _, _, rfl, by omega, by rw [List.length_set]; exact lhsA, fun j hj => ?_, hS5⟩, by omega⟩
      by_cases e : j = i
      · subst e; simp only [if_true]; rw [if_pos (by omega)]
      · simp only [if_neg e]
        rw [hRc j hj]
        by_cases e2 : j < i
        · rw [if_pos e2, if_pos (by omega)]
        · rw [if_neg e2, if_neg (by omega)]
  have hS : ShM w.heap.size (fun _ => True) (fun _ => []) sv hsA R w2 := hS.congr fun j hj => by rw [hRc j (by omega), if_pos (by omega)]
  clear hRc
  have hrA := fun j hj => (hr j hj).up B
  by_cases hf : f = 0 ∨ f = 1
  rotate_left
  · have d0 : f ≠ 0 := fun e => hf (Or.inl e)
    have d1 : f ≠ 1 := fun e => hf (Or.inr e)
    obtain ⟨len, ev, hL⟩ := lns_ex (hln hs) hs.length
    have ew : wer f k m (hln hs) hs.length len ev = 2 := if_neg hf
    simp (maxSteps := 1000000) (disch := omega) only [WS, ↓reduceIte, Nat.reduceEqDiff, reduceCtorEq, AS, t0, t1, t2, t3, t11, t12, h'.Xlen, decide_eq_true d0, decide_eq_true d1]
    exact ⟨B, len, ev, sv, hsA, lhsA, fun _ => hL, Or.inl ⟨by rw [ew]; decide, by rw [ew], hS⟩⟩
  simp (maxSteps := 1000000) (disch := omega) only [WS, ↓reduceIte, Nat.reduceEqDiff, reduceCtorEq, AS, t3, t12, h'.Xlen]
  refine XW_monoQ (Q := fun t w' => w2 = w' ∧ t 0 = .int .i64 f ∧ t 1 = .int .i64 k ∧ t 2 = .int .i64 m ∧ t 3 = s ∧ t 11 = sv ∧ t 54 = .bool false) (fun t w9 hQ => ?_) ?_
  rotate_left
  · rcases hf with e | e
    · have d0 : ¬ f ≠ 0 := fun h => h e
      simp (maxSteps := 1000000) (disch := omega) only [WS, ↓reduceIte, Nat.reduceEqDiff, reduceCtorEq, AS, t0, t1, t2, t3, t11, decide_eq_false d0]
    · have d0 : f ≠ 0 := by omega
      have d1 : ¬ f ≠ 1 := fun h => h e
      simp (maxSteps := 1000000) (disch := omega) only [WS, ↓reduceIte, Nat.reduceEqDiff, reduceCtorEq, AS, t0, t1, t2, t3, t11, decide_eq_true d0, decide_eq_false d1]
  clear t0 t1 t2 t3 t11 t12
  obtain ⟨rfl, t0, t1, t2, t3, t11, t54⟩ := hQ
  simp (maxSteps := 1000000) (disch := omega) only [WS, ↓reduceIte, Nat.reduceEqDiff, reduceCtorEq, AS, t0, t1, t2, t3, t11, t54]
  refine X_call0 ((culletref16_Partial_spec w2 f k m s hs h' hf).mono ?_)
  rintro vv w3 ⟨hB, len, ev, hL, ⟨he, rfl⟩ | ⟨he, hM, sz, rfl, oz⟩⟩
  · have B := B.trans (hB.mono B.size)
    have hS := hS.up (frmT fun _ => True) hB
    simp (maxSteps := 1000000) (disch := omega) only [WS, ↓reduceIte, Nat.reduceEqDiff, reduceCtorEq, AS, t0, t1, t2, t3, t11, decide_eq_true he]
    exact ⟨B, len, ev, sv, hsA, lhsA, hL, Or.inl ⟨he, rfl, hS⟩⟩
  have hS := hS.up (frmT fun _ => True) hB
  have B := B.trans (hB.mono B.size)
  have h' := h'.up hB
  have hrA := fun j hj => (hrA j hj).up hB
  have oz := oz.sl
  clear hB z2 hil
  have hk := hM.hk
  have hm := hM.hm
  have hkm := hM.km
  have hn3 := hM.hn
  have hlen := hM.hlen
  have hz := hM.hz
  have hnp := prsL_len (hln hs) hs.length
  obtain ⟨K, rfl⟩ : ∃ K : Nat, k = (K : Int) := ⟨k.toNat, by omega⟩
  obtain ⟨M, rfl⟩ : ∃ M : Nat, m = (M : Int) := ⟨m.toNat, by omega⟩
  rw [Int.toNat_natCast]
  have eKM : IntKind.i64.wrap ((K : Int) + (M : Int)) = ((hs.length : Nat) : Int) := by rw [wrap_id (by omega) (by omega)]; omega
  have hKM : K + M = hs.length := by omega
  have hlen2 : len ≤ 1048576 := by
    obtain ⟨a1, a2⟩ := prsL_get (L := hln hs) (n := hs.length) (i := 0) (by omega)
    have := (hM.hL _ a1).resolve_left a2
    rw [← this, hlr _ a1]
    exact hl _ a1
  have hpR : ∀ j, j ∈ prsL (hln hs) hs.length → (R j).length = len := fun j hj => by
    obtain ⟨a1, a2⟩ := prsL_mem.1 hj
    rw [← hlr j a1]
    exact (hM.hL _ a1).resolve_left a2
  have dz : decide ((0 : Int) ≠ 0) = false := rfl
  simp (maxSteps := 1000000) (disch := omega) only [WS, ↓reduceIte, Nat.reduceEqDiff, reduceCtorEq, AS, t0, t1, t2, t3, t11, dz, eKM]
  refine X_mks (x := hdn) (n := hs.length) (by simp only [maxBytes]; omega) (by omega) fun so w4 oo hB => ?_
  simp (maxSteps := 1000000) (disch := omega) only [WS, ↓reduceIte, Nat.reduceEqDiff, reduceCtorEq, AS, t0, t1, t2, t3, t11]
  refine loop_of (fun t w' => t 0 = .int .i64 f ∧ t 1 = .int .i64 (K : Int) ∧ t 2 = .int .i64 (M : Int) ∧ t 3 = s ∧ t 11 = sv ∧ t 13 = .int .i64 (len : Int) ∧ t 14 = sz ∧ t 16 = so ∧ ∃ (i : Nat) (hsO : List Hd) (Rc : Nat → List (El 8)), t 17 = .int .i64 (i : Int) ∧ i ≤ hs.length ∧ hsO.length = hs.length ∧ (∀ j, j < hs.length → Rc j = if j < i then List.replicate len 0 else []) ∧ ShM w3.heap.size (fun w' => RowKit.Below w3.heap.size w3 w') (fun _ => []) so hsO Rc w') (fun t _ => hs.length - (toI (t 17)).toNat)
    ⟨by simp only [WS, ↓reduceIte, Nat.reduceEqDiff, reduceCtorEq]; exact t0, by simp only [WS, ↓reduceIte, Nat.reduceEqDiff, reduceCtorEq]; exact t1, by simp only [WS, ↓reduceIte, Nat.reduceEqDiff, reduceCtorEq]; exact t2, by simp only [WS, ↓reduceIte, Nat.reduceEqDiff, reduceCtorEq]; exact t3, by simp only [WS, ↓reduceIte, Nat.reduceEqDiff, reduceCtorEq]; exact t11, by simp only [WS, ↓reduceIte, Nat.reduceEqDiff, reduceCtorEq], by simp only [WS, ↓reduceIte, Nat.reduceEqDiff, reduceCtorEq], by simp only [WS, ↓reduceIte, Nat.reduceEqDiff, reduceCtorEq], 0, _, _, by simp only [WS, ↓reduceIte, Nat.reduceEqDiff, reduceCtorEq]; rfl, by omega, List.length_replicate .., fun j hj => by rw [if_neg (by omega)], ShM.fresh oo hB⟩ ?_
  clear hB oo t0 t1 t2 t3 t11
  rintro t w4 ⟨t0, t1, t2, t3, t11, t13, t14, t16, i, hsO, Rc, t17, hi, lhsO, hRc, hO⟩
  have E := hO.frm
  by_cases hil : i < hs.length
  · simp (maxSteps := 1000000) (disch := omega) only [WS, ↓reduceIte, Nat.reduceEqDiff, reduceCtorEq, AS, t0, t1, t2, t3, t11, t13, t14, t16, t17, eKM]
    refine X_mks (x := (0 : El 8)) (n := len) (by simp only [maxBytes]; omega) (by omega) fun sr w5 or hB => ?_
    have hO4 := hO.up (frmB w3) hB
    have iS : i < hsO.length := by omega
    have hcv : Cell.v (hd sr) = sr := or.sl.hd.1
    have hRci : Rc i = [] := by rw [hRc i hil, if_neg (by omega)]
    simp (maxSteps := 1000000) (disch := omega) only [WS, ↓reduceIte, Nat.reduceEqDiff, reduceCtorEq, AS, t0, t1, t2, t3, t11, t13, t14, t16, t17, hO4.top.sl.Xix iS]
    rw [← hcv]
    refine ShM.Xput (frmB w3) hO hO4 iS hRci rfl (fun b hb => (hO4.top.blk b hb).1) (hd sr) (ne_of_len (List.length_replicate ..) hlen) (by rw [hcv]; exact or) E.size fun w6 b hO5 hg hb => ?_
    simp (maxSteps := 1000000) (disch := omega) only [WS, ↓reduceIte, Nat.reduceEqDiff, reduceCtorEq, AS, t0, t1, t2, t3, t11, t13, t14, t16, t17]
    refine ⟨⟨i + 1, _, _, rfl, by omega, by rw [List.length_set]; exact lhsO, fun j hj => ?_, hO5⟩, by omega⟩
    by_cases e : j = i
    · subst e; simp only [if_true]; rw [if_pos (by omega)]
    · simp only [if_neg e]
      rw [hRc j hj]
      by_cases e2 : j < i
      · rw [if_pos e2, if_pos (by omega)]
      · rw [if_neg e2, if_neg (by omega)]
  have eil : i = hs.length := by omega
  have hO : ShM w3.heap.size (fun w' => RowKit.Below w3.heap.size w3 w') (fun _ => []) so hsO (fun _ => List.replicate len (0 : El 8)) w4 := hO.congr fun j hj => by rw [hRc j (by omega), if_pos (by omega)]
  clear hRc
  have hblk : ∀ i (hi : i < hsO.length), ∃ b, Fw.blk (Cell.v hsO[i]) = some b ∧ w3.heap.size ≤ b ∧ b < w4.heap.size := fun i hi => (hO.row i hi (ne_of_len (List.length_replicate ..) hlen)).blk
  have hblv := hO.top.blk
  simp (maxSteps := 1000000) (disch := omega) only [WS, ↓reduceIte, Nat.reduceEqDiff, reduceCtorEq, AS, t0, t1, t2, t3, t11, t13, t14, t16, t17, eKM, eil]
  refine loop_of (fun t w' => t 0 = .int .i64 f ∧ t 1 = .int .i64 (K : Int) ∧ t 2 = .int .i64 (M : Int) ∧ t 3 = s ∧ t 11 = sv ∧ t 13 = .int .i64 (len : Int) ∧ t 14 = sz ∧ t 16 = so ∧ RowKit.Below w4.heap.size w4 w' ∧ ∃ (i : Nat) (sr : Value), t 20 = .int .i64 (i : Int) ∧ i ≤ hs.length ∧ t 19 = .int .i64 ((zis (hln hs) i).length : Int) ∧ t 18 = sr ∧ Ow w4.heap.size w' sr (plc (hln hs) i)) (fun t _ => hs.length - (toI (t 20)).toNat)
    ⟨by simp only [WS, ↓reduceIte, Nat.reduceEqDiff, reduceCtorEq]; exact t0, by simp only [WS, ↓reduceIte, Nat.reduceEqDiff, reduceCtorEq]; exact t1, by simp only [WS, ↓reduceIte, Nat.reduceEqDiff, reduceCtorEq]; exact t2, by simp only [WS, ↓reduceIte, Nat.reduceEqDiff, reduceCtorEq]; exact t3, by simp only [WS, ↓reduceIte, Nat.reduceEqDiff, reduceCtorEq]; exact t11, by simp only [WS, ↓reduceIte, Nat.reduceEqDiff, reduceCtorEq]; exact t13, by simp only [WS, ↓reduceIte, Nat.reduceEqDiff, reduceCtorEq]; exact t14, by simp only [WS, ↓reduceIte, Nat.reduceEqDiff, reduceCtorEq]; exact t16, RowKit.Below.refl _ _, 0, _, by simp only [WS, ↓reduceIte, Nat.reduceEqDiff, reduceCtorEq]; rfl, by omega, by simp only [WS, ↓reduceIte, Nat.reduceEqDiff, reduceCtorEq]; rfl, by simp only [WS, ↓reduceIte, Nat.reduceEqDiff, reduceCtorEq], Ow.nil _ _⟩ ?_
  clear t0 t1 t2 t3 t11 t13 t14 t16 t17 hi hil eil i
  rintro t w5 ⟨t0, t1, t2, t3, t11, t13, t14, t16, C, i, sr, t20, hi, t19, t18, or⟩
  have oz5 := (oz.up E).up C
  by_cases hil : i < hs.length
  · have zi := zis_succ (hln hs) i
    have pi := plc_succ (hln hs) i
    have zle := zis_le (hln hs) i
    have plen := plc_len (hln hs) i
    have pln2 := prsL_len (hln hs) i
    by_cases h0 : hln hs i = 0
    · have hlt := zis_lt (hln hs) hil h0
      have hat := (zis_at (hln hs) hil hlt).1 h0
      have hlt' : ((zis (hln hs) i).length : Int) < ((zis (hln hs) hs.length).length : Int) := by omega
      rw [if_pos h0] at zi pi
      have e9 : IntKind.i64.wrap (((zis (hln hs) i).length : Int) + 1) = (((zis (hln hs) i ++ [(i : Int)]).length : Nat) : Int) := by rw [List.length_append, List.length_singleton, wrap_id (by omega) (by omega)]; rfl
      simp (maxSteps := 1000000) (disch := omega) only [WS, ↓reduceIte, Nat.reduceEqDiff, reduceCtorEq, AS, t0, t1, t2, t3, t11, t13, t14, t16, t18, t19, t20, eKM, oz5.Xlen, decide_eq_true hlt', oz5.Xix hlt, oz5.Xld hlt, cell_int, hat, e9]
      exact ⟨⟨C, i + 1, sr, rfl, by omega, by rw [zi], rfl, by rw [pi]; exact or⟩, by omega⟩
    rw [if_neg h0] at zi pi
    have hap : ∀ (_ : True), (plc (hln hs) i ++ [(i : Int)]).length ≤ i + 1 := fun _ => by rw [List.length_append, List.length_singleton]; omega
    by_cases hlt : (zis (hln hs) i).length < (zis (hln hs) hs.length).length
    · have hat := (zis_at (hln hs) hil hlt).2 h0
      have hlt' : ((zis (hln hs) i).length : Int) < ((zis (hln hs) hs.length).length : Int) := by omega
      simp (maxSteps := 1000000) (disch := omega) only [WS, ↓reduceIte, Nat.reduceEqDiff, reduceCtorEq, AS, t0, t1, t2, t3, t11, t13, t14, t16, t18, t19, t20, eKM, oz5.Xlen, decide_eq_true hlt', oz5.Xix hlt, oz5.Xld hlt, cell_int, decide_eq_false hat]
      refine X_bsl (zs := [(i : Int)]) (by rfl) (by rfl) fun e1 w6 oe hB => ?_
      have C := C.trans (hB.mono C.size)
      have or := or.up hB
      clear hB
      simp (maxSteps := 1000000) (disch := omega) only [WS, ↓reduceIte, Nat.reduceEqDiff, reduceCtorEq, AS, t0, t1, t2, t3, t11, t13, t14, t16, t18, t19, t20]
      refine Ow.Xapp or oe.sl C.size (by simp only [List.length_singleton, maxBytes]; omega) (by simp only [List.length_singleton]; omega) fun e2 w7 or2 hg _ => ?_
      have C := Below.app C C.size hg fun b hb => (or.blk b hb).1
      simp (maxSteps := 1000000) (disch := omega) only [WS, ↓reduceIte, Nat.reduceEqDiff, reduceCtorEq, AS, t0, t1, t2, t3, t11, t13, t14, t16, t18, t19, t20]
      exact ⟨⟨C, i + 1, e2, rfl, by omega, by rw [zi], rfl, by rw [pi]; exact or2⟩, by omega⟩
    · have hlt' : ¬ ((zis (hln hs) i).length : Int) < ((zis (hln hs) hs.length).length : Int) := by omega
      simp (maxSteps := 1000000) (disch := omega) only [WS, ↓reduceIte, Nat.reduceEqDiff, reduceCtorEq, AS, t0, t1, t2, t3, t11, t13, t14, t16, t18, t19, t20, eKM, oz5.Xlen, decide_eq_false hlt']
      refine X_bsl (zs := [(i : Int)]) (by rfl) (by rfl) fun e1 w6 oe hB => ?_
      have C := C.trans (hB.mono C.size)
      have or := or.up hB
      clear hB
      simp (maxSteps := 1000000) (disch := omega) only [WS, ↓reduceIte, Nat.reduceEqDiff, reduceCtorEq, AS, t0, t1, t2, t3, t11, t13, t14, t16, t18, t19, t20]
      refine Ow.Xapp or oe.sl C.size (by simp only [List.length_singleton, maxBytes]; omega) (by simp only [List.length_singleton]; omega) fun e2 w7 or2 hg _ => ?_
      have C := Below.app C C.size hg fun b hb => (or.blk b hb).1
      simp (maxSteps := 1000000) (disch := omega) only [WS, ↓reduceIte, Nat.reduceEqDiff, reduceCtorEq, AS, t0, t1, t2, t3, t11, t13, t14, t16, t18, t19, t20]
      exact ⟨⟨C, i + 1, e2, rfl, by omega, by rw [zi], rfl, by rw [pi]; exact or2⟩, by omega⟩
  have eil : i = hs.length := by omega
  rw [eil] at or t19
  have z5 := C.size
  have zE := E.size
  have hbsr := or.blk
  have lpl := plc_len (hln hs) hs.length
  simp (maxSteps := 1000000) (disch := omega) only [WS, ↓reduceIte, Nat.reduceEqDiff, reduceCtorEq, AS, t0, t1, t2, t3, t11, t13, t14, t16, t18, t19, t20, eKM, eil]
  refine X_mks (x := false) (n := hs.length) (by simp only [maxBytes]; omega) (by omega) fun st w6 ot hB => ?_
  simp (maxSteps := 1000000) (disch := omega) only [WS, ↓reduceIte, Nat.reduceEqDiff, reduceCtorEq, AS, t0, t1, t2, t3, t11, t13, t14, t16, t18, t19, t20]
  have hO6 := (hO.up (frmB w3) C).up (frmB w3) hB
  have or6 := or.up hB
  have z6 := hB.size
  have hbst := ot.blk
  obtain ⟨p, hp⟩ : ∃ p, p = (prsL (hln hs) hs.length).length := ⟨_, rfl⟩
  rw [← hp] at lpl hnp
  refine loop_of (fun t w' => t 0 = .int .i64 f ∧ t 1 = .int .i64 (K : Int) ∧ t 2 = .int .i64 (M : Int) ∧ t 3 = s ∧ t 11 = sv ∧ t 13 = .int .i64 (len : Int) ∧ t 16 = so ∧ t 18 = sr ∧ t 21 = st ∧ w6.heap.size ≤ w'.heap.size ∧ ∃ (x : Nat) (Rd G : Nat → List (El 8)) (tL : List Bool), t 22 = .int .i64 (x : Int) ∧ x ≤ len ∧ (∀ j, j < hs.length → (Rd j).length = len) ∧ (∀ j, j < hs.length → ∀ y, y < x → nth (Rd j) y = valS f K (G y) j) ∧ (∀ y, y < x → nearS f K (hln hs) hs.length R y (G y)) ∧ tL.length = hs.length ∧ (∀ j (hj : j < tL.length), tL[j] = true ↔ (hln hs j ≠ 0 ∧ ∃ y, y < x ∧ nth (R j) y ≠ valS f K (G y) j)) ∧ ShM w3.heap.size (fun w' => RowKit.Below w3.heap.size w3 w') (fun _ => []) so hsO Rd w' ∧ Ow w5.heap.size w' st tL ∧ Ow w4.heap.size w' sr (plc (hln hs) hs.length)) (fun t _ => len - (toI (t 22)).toNat)
    ⟨by simp only [WS, ↓reduceIte, Nat.reduceEqDiff, reduceCtorEq]; exact t0, by simp only [WS, ↓reduceIte, Nat.reduceEqDiff, reduceCtorEq]; exact t1, by simp only [WS, ↓reduceIte, Nat.reduceEqDiff, reduceCtorEq]; exact t2, by simp only [WS, ↓reduceIte, Nat.reduceEqDiff, reduceCtorEq]; exact t3, by simp only [WS, ↓reduceIte, Nat.reduceEqDiff, reduceCtorEq]; exact t11, by simp only [WS, ↓reduceIte, Nat.reduceEqDiff, reduceCtorEq]; exact t13, by simp only [WS, ↓reduceIte, Nat.reduceEqDiff, reduceCtorEq]; exact t16, by simp only [WS, ↓reduceIte, Nat.reduceEqDiff, reduceCtorEq]; exact t18, by simp only [WS, ↓reduceIte, Nat.reduceEqDiff, reduceCtorEq], Nat.le_refl _, 0, _, fun _ => [], _, by simp only [WS, ↓reduceIte, Nat.reduceEqDiff, reduceCtorEq]; rfl, by omega, fun j hj => List.length_replicate .., fun j hj y hy => absurd hy (Nat.not_lt_zero _), fun y hy => absurd hy (Nat.not_lt_zero _), List.length_replicate .., fun j hj => by
      rw [List.getElem_replicate]
      exact ⟨fun e => (nomatch e), fun ⟨_, y, hy, _⟩ => absurd hy (Nat.not_lt_zero _)⟩, hO6, ot, or6⟩ ?_
  clear t0 t1 t2 t3 t11 t13 t14 t16 t18 t19 t20 hO6 or6 ot or hB oz5 hi hil eil C
  rintro t w7 ⟨t0, t1, t2, t3, t11, t13, t16, t18, t21, z7, x, Rd, G, tL, t22, hx, hRl, hRv, hG, ltL, htL, hO7, ot, or⟩
  have E7 := hO7.frm
  by_cases hxl : x < len
  rotate_left
  · have exl : x = len := by omega
    subst exl
    simp (maxSteps := 1000000) (disch := omega) only [WS, ↓reduceIte, Nat.reduceEqDiff, reduceCtorEq, AS, t0, t1, t2, t3, t11, t13, t16, t18, t21, t22]
    have hRe : ∀ j, j ∈ prsL (hln hs) hs.length → (R j = rowS f K G x j ↔ ∀ y, y < x → nth (R j) y = valS f K (G y) j) := fun j hj => rowS_eq (hpR j hj)
    refine loop_of (fun t w' => t 1 = .int .i64 (K : Int) ∧ t 2 = .int .i64 (M : Int) ∧ t 16 = so ∧ t 21 = st ∧ RowKit.Below w7.heap.size w7 w' ∧ ∃ (i : Nat) (sw : Value), t 30 = .int .i64 (i : Int) ∧ i ≤ hs.length ∧ t 29 = sw ∧ Ow w7.heap.size w' sw (((prsL (hln hs) i).filter fun s => !decide (R s = rowS f K G x s)).map fun (j : Nat) => (j : Int))) (fun t _ => hs.length - (toI (t 30)).toNat)
      ⟨by simp only [WS, ↓reduceIte, Nat.reduceEqDiff, reduceCtorEq]; exact t1, by simp only [WS, ↓reduceIte, Nat.reduceEqDiff, reduceCtorEq]; exact t2, by simp only [WS, ↓reduceIte, Nat.reduceEqDiff, reduceCtorEq]; exact t16, by simp only [WS, ↓reduceIte, Nat.reduceEqDiff, reduceCtorEq]; exact t21, RowKit.Below.refl _ _, 0, _, by simp only [WS, ↓reduceIte, Nat.reduceEqDiff, reduceCtorEq]; rfl, by omega, by simp only [WS, ↓reduceIte, Nat.reduceEqDiff, reduceCtorEq], Ow.nil _ _⟩ ?_
    clear t0 t1 t2 t3 t11 t13 t16 t18 t21 t22
    rintro t w8 ⟨t1, t2, t16, t21, C, i, sw, t30, hi, t29, ow⟩
    by_cases hil : i < hs.length
    · have pi := prsL_succ (hln hs) i
      have it : i < tL.length := by omega
      have ht := htL i it
      have ot8 := ot.up C
      have hpl : (((prsL (hln hs) i).filter fun s => !decide (R s = rowS f K G x s)).map fun (j : Nat) => (j : Int)).length ≤ i := by
        rw [List.length_map]
        have := List.length_filter_le (fun s => !decide (R s = rowS f K G x s)) (prsL (hln hs) i)
        have := prsL_len (hln hs) i
        omega
      by_cases hb : tL[i] = true
      · obtain ⟨h0, y, hy, hne⟩ := ht.1 hb
        rw [if_neg h0] at pi
        have hR : R i ≠ rowS f K G x i := fun e => hne ((hRe i (prsL_mem.2 ⟨hil, h0⟩)).1 e y hy)
        simp (maxSteps := 1000000) (disch := omega) only [WS, ↓reduceIte, Nat.reduceEqDiff, reduceCtorEq, AS, t1, t2, t16, t21, t29, t30, eKM, ot8.sl.Xix it, ot8.sl.Xld it, cell_bool, hb]
        refine X_bsl (zs := [(i : Int)]) (by rfl) (by rfl) fun e1 w9 oe hB => ?_
        have C := C.trans (hB.mono C.size)
        have ow := ow.up hB
        clear hB
        simp (maxSteps := 1000000) (disch := omega) only [WS, ↓reduceIte, Nat.reduceEqDiff, reduceCtorEq, AS, t1, t2, t16, t21, t29, t30]
        refine Ow.Xapp ow oe.sl C.size (by simp only [List.length_singleton, maxBytes]; omega) (by simp only [List.length_singleton]; omega) fun e2 w10 ow2 hg _ => ?_
        have C := Below.app C C.size hg fun b hb => (ow.blk b hb).1
        simp (maxSteps := 1000000) (disch := omega) only [WS, ↓reduceIte, Nat.reduceEqDiff, reduceCtorEq, AS, t1, t2, t16, t21, t29, t30]
        refine ⟨⟨C, i + 1, e2, rfl, by omega, rfl, ?_⟩, by omega⟩
        rw [pi, List.filter_append, List.map_append]
        simp only [List.filter_cons, List.filter_nil, hR, decide_false, Bool.not_false, if_true, List.map_cons, List.map_nil]
        exact ow2
      · have hb' : tL[i] = false := by cases e : tL[i]; rfl; exact absurd e hb
        simp (maxSteps := 1000000) (disch := omega) only [WS, ↓reduceIte, Nat.reduceEqDiff, reduceCtorEq, AS, t1, t2, t16, t21, t29, t30, eKM, ot8.sl.Xix it, ot8.sl.Xld it, cell_bool, hb']
        refine ⟨⟨C, i + 1, sw, rfl, by omega, rfl, ?_⟩, by omega⟩
        by_cases h0 : hln hs i = 0
        · rw [if_pos h0] at pi
          rw [pi]; exact ow
        · rw [if_neg h0] at pi
          have hR : R i = rowS f K G x i := (hRe i (prsL_mem.2 ⟨hil, h0⟩)).2 fun y hy => Classical.byContradiction fun hne => hb (ht.2 ⟨h0, y, hy, hne⟩)
          rw [pi, List.filter_append]
          simp only [List.filter_cons, List.filter_nil, hR, decide_true, Bool.not_true, Bool.false_eq_true, if_false, List.append_nil]
          exact ow
    have eil : i = hs.length := by omega
    rw [eil] at ow
    simp (maxSteps := 1000000) (disch := omega) only [WS, ↓reduceIte, Nat.reduceEqDiff, reduceCtorEq, AS, t1, t2, t16, t21, t29, t30, eKM, eil]
    have hO8 := hO7.up (frmB w3) C
    refine ⟨B.trans ((E7.trans (C.mono E7.size)).mono B.size), x, ev, so, hsO, lhsO, hL, Or.inr ⟨he, hM, Or.inr ⟨sw, G, rfl, ((hO8.frame trivial).mono B.size).congr fun j hj => ?_, hG, ow.mono (by have := B.size; have := E7.size; omega)⟩⟩⟩
    exact ((rowS_eq (hRl j (by omega))).2 (hRv j (by omega))).symm
  have hs7 := h'.up E7
  simp (maxSteps := 1000000) (disch := omega) only [WS, ↓reduceIte, Nat.reduceEqDiff, reduceCtorEq, AS, t0, t1, t2, t3, t11, t13, t16, t18, t21, t22, or.sl.Xlen, lpl]
  refine X_mks (x := (0 : El 8)) (n := p) (by simp only [maxBytes]; omega) (by omega) fun sb w8 ob hB => ?_
  simp (maxSteps := 1000000) (disch := omega) only [WS, ↓reduceIte, Nat.reduceEqDiff, reduceCtorEq, AS, t0, t1, t2, t3, t11, t13, t16, t18, t21, t22]
  refine loop_of (fun t w' => t 0 = .int .i64 f ∧ t 1 = .int .i64 (K : Int) ∧ t 2 = .int .i64 (M : Int) ∧ t 3 = s ∧ t 11 = sv ∧ t 13 = .int .i64 (len : Int) ∧ t 16 = so ∧ t 18 = sr ∧ t 21 = st ∧ t 22 = .int .i64 (x : Int) ∧ t 23 = sb ∧ RowKit.Below w7.heap.size w7 w' ∧ ∃ (a : Nat) (VL : List (El 8)), t 24 = .int .i64 (a : Int) ∧ a ≤ p ∧ VL.length = p ∧ (∀ j (hj : j < VL.length), j < a → VL[j] = nth (vls (hln hs) hs.length R x) j) ∧ Ow w7.heap.size w' sb VL) (fun t _ => p - (toI (t 24)).toNat)
    ⟨by simp only [WS, ↓reduceIte, Nat.reduceEqDiff, reduceCtorEq]; exact t0, by simp only [WS, ↓reduceIte, Nat.reduceEqDiff, reduceCtorEq]; exact t1, by simp only [WS, ↓reduceIte, Nat.reduceEqDiff, reduceCtorEq]; exact t2, by simp only [WS, ↓reduceIte, Nat.reduceEqDiff, reduceCtorEq]; exact t3, by simp only [WS, ↓reduceIte, Nat.reduceEqDiff, reduceCtorEq]; exact t11, by simp only [WS, ↓reduceIte, Nat.reduceEqDiff, reduceCtorEq]; exact t13, by simp only [WS, ↓reduceIte, Nat.reduceEqDiff, reduceCtorEq]; exact t16, by simp only [WS, ↓reduceIte, Nat.reduceEqDiff, reduceCtorEq]; exact t18, by simp only [WS, ↓reduceIte, Nat.reduceEqDiff, reduceCtorEq]; exact t21, by simp only [WS, ↓reduceIte, Nat.reduceEqDiff, reduceCtorEq]; exact t22, by simp only [WS, ↓reduceIte, Nat.reduceEqDiff, reduceCtorEq], hB, 0, _, by simp only [WS, ↓reduceIte, Nat.reduceEqDiff, reduceCtorEq]; rfl, by omega, List.length_replicate .., fun j hj h => absurd h (Nat.not_lt_zero _), ob⟩ ?_
  clear t0 t1 t2 t3 t11 t13 t16 t18 t21 t22 ob hB
  rintro t w8 ⟨t0, t1, t2, t3, t11, t13, t16, t18, t21, t22, t23, C, a, VL, t24, ha, lV, hV, ob⟩
  have or8 := or.up C
  have lvl := vls_len (hln hs) hs.length R x
  by_cases hal : a < p
  · have i1 : a < (plc (hln hs) hs.length).length := by omega
    have i3 : a < (prsL (hln hs) hs.length).length := by omega
    have i2 : a < (vls (hln hs) hs.length R x).length := by omega
    have iV : a < VL.length := by omega
    have g1 := plc_get i1 i3
    have g2 := vls_get i2 i3
    obtain ⟨hq1, hq2⟩ := prsL_get i3
    have hqR := hpR _ (List.getElem_mem i3)
    obtain ⟨q, hq⟩ : ∃ q, q = (prsL (hln hs) hs.length)[a] := ⟨_, rfl⟩
    rw [← hq] at g1 g2 hq1 hq2 hqR
    have rq := ((hrA q hq1).up E7).up C
    have h8 := hs7.up C
    have ixq : x < (R q).length := by omega
    have eR : (R q)[x] = nth (R q) x := (nth_get ixq).symm
    simp (maxSteps := 1000000) (disch := omega) only [WS, ↓reduceIte, Nat.reduceEqDiff, reduceCtorEq, AS, t0, t1, t2, t3, t11, t13, t16, t18, t21, t22, t23, t24, or8.sl.Xlen, lpl, or8.sl.Xix i1, or8.sl.Xld i1, cell_int, g1, h8.Xix hq1, h8.Xld hq1, rq.Xix ixq, rq.Xld ixq, cell_e8, eR, ob.sl.Xix iV]
    refine Ow.Xst ob iV (nth (R q) x) fun w9 ob2 hg => ?_
    have C := Below.app C C.size hg fun b hb => (ob.blk b hb).1
    simp (maxSteps := 1000000) (disch := omega) only [WS, ↓reduceIte, Nat.reduceEqDiff, reduceCtorEq, AS, t0, t1, t2, t3, t11, t13, t16, t18, t21, t22, t23, t24]
    refine ⟨⟨C, a + 1, _, rfl, by omega, by rw [List.length_set]; exact lV, fun j hj hji => ?_, ob2⟩, by omega⟩
    rw [List.getElem_set]
    split
    · rename_i e
      subst e
      rw [nth_get i2, g2]
    · exact hV j (by rw [List.length_set] at hj; exact hj) (by omega)
  have eap : a = p := by omega
  have eV : VL = vls (hln hs) hs.length R x := List.ext_getElem (by omega) fun j a1 a2 => by
    rw [hV j a1 (by omega), nth_get a2]
  rw [eV] at ob
  clear hV lV eV VL
  simp (maxSteps := 1000000) (disch := omega) only [WS, ↓reduceIte, Nat.reduceEqDiff, reduceCtorEq, AS, t0, t1, t2, t3, t11, t13, t16, t18, t21, t22, t23, t24, or8.sl.Xlen, lpl, eap]
  refine X_call0 ((culletref19_mended_spec w8 f K M sr sb (hln hs) R x (by rw [hKM]; exact or8.sl) (by rw [hKM]; exact ob.sl) hf (by omega) (by omega) (by rw [hKM]; omega)).mono ?_)
  rw [hKM]
  rintro vv w9 ⟨hB, ⟨sw, g, rfl, hng, ow⟩ | ⟨sw, rfl, hfar⟩⟩
  rotate_left
  · have C := C.trans (hB.mono C.size)
    have E := E7.trans (C.mono E7.size)
    simp (maxSteps := 1000000) (disch := omega) only [WS, ↓reduceIte, Nat.reduceEqDiff, reduceCtorEq, AS, t0, t1, t2, t3, t11, t13, t16, t18, t21, t22, t23]
    exact ⟨B.trans (E.mono B.size), len, ev, sv, hsA, lhsA, hL, Or.inr ⟨he, hM, Or.inl ⟨rfl, hS.up (frmT fun _ => True) E, x, hxl, hfar⟩⟩⟩
  have z8 := C.size
  have ow := ow.mono (show w7.heap.size ≤ w8.heap.size from C.size)
  have ob := ob.up hB
  have C := C.trans (hB.mono C.size)
  have hO9 := hO7.up (frmB w3) C
  have ot9 := ot.up C
  have or9 := or.up C
  have z9 := C.size
  clear or8 t24 hal ha eap hB
  obtain ⟨G1, hG1⟩ : ∃ G1 : Nat → List (El 8), G1 = fun y => if y = x then g else G y := ⟨_, rfl⟩
  have gx : G1 x = g := by rw [hG1]; exact if_pos rfl
  have gy : ∀ y, y < x → G1 y = G y := fun y hy => by rw [hG1]; exact if_neg (by omega)
  have hRv1 : ∀ j, j < hs.length → ∀ y, y < x → nth (Rd j) y = valS f K (G1 y) j := fun j hj y hy => by rw [gy y hy]; exact hRv j hj y hy
  have hGn : ∀ y, y < x + 1 → nearS f K (hln hs) hs.length R y (G1 y) := fun y hy => by
    by_cases e : y = x
    · rw [e, gx]; exact hng
    · rw [gy y (by omega)]; exact hG y (by omega)
  have htL1 : ∀ j (hj : j < tL.length), tL[j] = true ↔ (hln hs j ≠ 0 ∧ ∃ y, y < x ∧ nth (R j) y ≠ valS f K (G1 y) j) := fun j hj => by
    rw [htL j hj]
    constructor
    · rintro ⟨a1, y, hy, a2⟩; exact ⟨a1, y, hy, by rw [gy y hy]; exact a2⟩
    · rintro ⟨a1, y, hy, a2⟩; exact ⟨a1, y, hy, by rw [gy y hy] at a2; exact a2⟩
  rw [← gx] at ow
  clear hG1 hRv hG htL gy gx hng
  have hw := wordV_len f K hs.length (G1 x)
  simp (maxSteps := 1000000) (disch := omega) only [WS, ↓reduceIte, Nat.reduceEqDiff, reduceCtorEq, AS, t0, t1, t2, t3, t11, t13, t16, t18, t21, t22, t23]
  refine loop_of (fun t w' => t 0 = .int .i64 f ∧ t 1 = .int .i64 (K : Int) ∧ t 2 = .int .i64 (M : Int) ∧ t 3 = s ∧ t 11 = sv ∧ t 13 = .int .i64 (len : Int) ∧ t 16 = so ∧ t 18 = sr ∧ t 21 = st ∧ t 22 = .int .i64 (x : Int) ∧ t 23 = sb ∧ t 25 = sw ∧ w9.heap.size ≤ w'.heap.size ∧ ∃ (i : Nat) (Re : Nat → List (El 8)), t 27 = .int .i64 (i : Int) ∧ i ≤ hs.length ∧ (∀ j, j < hs.length → (Re j).length = len) ∧ (∀ j, j < hs.length → ∀ y, y < x → nth (Re j) y = valS f K (G1 y) j) ∧ (∀ j, j < i → nth (Re j) x = valS f K (G1 x) j) ∧ ShM w3.heap.size (fun w' => RowKit.Below w3.heap.size w3 w') (fun _ => []) so hsO Re w' ∧ Ow w5.heap.size w' st tL ∧ Ow w4.heap.size w' sr (plc (hln hs) hs.length) ∧ Ow w7.heap.size w' sb (vls (hln hs) hs.length R x) ∧ Ow w7.heap.size w' sw (wordV f K hs.length (G1 x))) (fun t _ => hs.length - (toI (t 27)).toNat)
    ⟨by simp only [WS, ↓reduceIte, Nat.reduceEqDiff, reduceCtorEq]; exact t0, by simp only [WS, ↓reduceIte, Nat.reduceEqDiff, reduceCtorEq]; exact t1, by simp only [WS, ↓reduceIte, Nat.reduceEqDiff, reduceCtorEq]; exact t2, by simp only [WS, ↓reduceIte, Nat.reduceEqDiff, reduceCtorEq]; exact t3, by simp only [WS, ↓reduceIte, Nat.reduceEqDiff, reduceCtorEq]; exact t11, by simp only [WS, ↓reduceIte, Nat.reduceEqDiff, reduceCtorEq]; exact t13, by simp only [WS, ↓reduceIte, Nat.reduceEqDiff, reduceCtorEq]; exact t16, by simp only [WS, ↓reduceIte, Nat.reduceEqDiff, reduceCtorEq]; exact t18, by simp only [WS, ↓reduceIte, Nat.reduceEqDiff, reduceCtorEq]; exact t21, by simp only [WS, ↓reduceIte, Nat.reduceEqDiff, reduceCtorEq]; exact t22, by simp only [WS, ↓reduceIte, Nat.reduceEqDiff, reduceCtorEq]; exact t23, by simp only [WS, ↓reduceIte, Nat.reduceEqDiff, reduceCtorEq], Nat.le_refl _, 0, Rd, by simp only [WS, ↓reduceIte, Nat.reduceEqDiff, reduceCtorEq]; rfl, by omega, hRl, hRv1, fun j hj => absurd hj (Nat.not_lt_zero _), hO9, ot9, or9, ob, ow⟩ ?_
  clear t0 t1 t2 t3 t11 t13 t16 t18 t21 t22 t23 hO9 ot9 or9 ob ow ot or hO7 E7 hs7 hRv1 hRl
  rintro t w10 ⟨t0, t1, t2, t3, t11, t13, t16, t18, t21, t22, t23, t25, z10, i, Re, t27, hi, hRel, hRev, hRex, hO10, ot, or, ob, ow⟩
  by_cases hil : i < hs.length
  · simp (maxSteps := 1000000) (disch := omega) only [WS, ↓reduceIte, Nat.reduceEqDiff, reduceCtorEq, AS, t0, t1, t2, t3, t11, t13, t16, t18, t21, t22, t23, t25, t27, eKM]
    refine WP_dops ?_
    have bd := bel_drew w10
    have hO10 := hO10.up (frmB w3) bd
    have z10 := Nat.le_trans z10 bd.size
    have ot := ot.up bd
    have or := or.up bd
    have ob := ob.up bd
    have ow := ow.up bd
    clear bd
    have hsl := hO10.top.sl
    have iS : i < hsO.length := by omega
    have si := hO10.sl iS
    have ixR : x < (Re i).length := by rw [hRel i hil]; exact hxl
    have ic : i < (wordV f K hs.length (G1 x)).length := by omega
    have ec := wordV_get ic
    obtain ⟨ci, hci, hci1, hci2⟩ := hblk i iS
    simp (maxSteps := 1000000) (disch := omega) only [ES, List.mem_cons, List.not_mem_nil, implies_true, forall_const, WS, ↓reduceIte, Nat.reduceEqDiff, reduceCtorEq, AS, t0, t1, t2, t3, t11, t13, t16, t18, t21, t22, t23, t25, t27, hsl.Eix iS, hsl.Eld iS, ow.sl.Eix ic, ow.sl.Eld ic, cell_e8, ec, si.Eix ixR]
    refine hO10.Est (frmB w3) iS ixR (fun b hb => by rw [hci] at hb; cases hb; exact hci1) (valS f K (G1 x) i) fun w11 c hO11 hg hc => ?_
    rw [hci] at hc
    cases hc
    have ot := ot.gr' hg fun y hy e => by cases hy; have := (ot.blk _ e).1; omega
    have or := or.gr' hg fun y hy e => by cases hy; have := (or.blk _ e).1; omega
    have ob := ob.gr' hg fun y hy e => by cases hy; have := (ob.blk _ e).1; omega
    have ow := ow.gr' hg fun y hy e => by cases hy; have := (ow.blk _ e).1; omega
    have z10 := Nat.le_trans z10 hg.size
    simp (maxSteps := 1000000) (disch := omega) only [ES, List.mem_cons, List.not_mem_nil, implies_true, forall_const, WS, ↓reduceIte, Nat.reduceEqDiff, reduceCtorEq, AS, t0, t1, t2, t3, t11, t13, t16, t18, t21, t22, t23, t25, t27]
    refine ⟨⟨z10, i + 1, _, rfl, by omega, fun j hj => ?_, fun j hj y hy => ?_, fun j hj => ?_, hO11, ot, or, ob, ow⟩, by omega⟩
    · by_cases e : j = i
      · subst e; simp only [if_true]; rw [List.length_set]; exact hRel j hj
      · simp only [if_neg e]; exact hRel j hj
    · by_cases e : j = i
      · subst e; simp only [if_true]; rw [nth_set ixR, if_neg (by omega)]; exact hRev j hj y hy
      · simp only [if_neg e]; exact hRev j hj y hy
    · by_cases e : j = i
      · subst e; simp only [if_true]; rw [nth_set ixR, if_pos rfl]
      · simp only [if_neg e]; exact hRex j (by omega)
  have eil : i = hs.length := by omega
  rw [eil] at hRex
  simp (maxSteps := 1000000) (disch := omega) only [WS, ↓reduceIte, Nat.reduceEqDiff, reduceCtorEq, AS, t0, t1, t2, t3, t11, t13, t16, t18, t21, t22, t23, t25, t27, eKM, eil]
  refine loop_of (fun t w' => t 0 = .int .i64 f ∧ t 1 = .int .i64 (K : Int) ∧ t 2 = .int .i64 (M : Int) ∧ t 3 = s ∧ t 11 = sv ∧ t 13 = .int .i64 (len : Int) ∧ t 16 = so ∧ t 18 = sr ∧ t 21 = st ∧ t 22 = .int .i64 (x : Int) ∧ t 23 = sb ∧ t 25 = sw ∧ w9.heap.size ≤ w'.heap.size ∧ ∃ (c : Nat) (uL : List Bool), t 28 = .int .i64 (c : Int) ∧ c ≤ p ∧ uL.length = hs.length ∧ (∀ j (hj : j < uL.length), uL[j] = true ↔ (hln hs j ≠ 0 ∧ ∃ y, y < x ∧ nth (R j) y ≠ valS f K (G1 y) j) ∨ (j ∈ (prsL (hln hs) hs.length).take c ∧ nth (R j) x ≠ valS f K (G1 x) j)) ∧ ShM w3.heap.size (fun w' => RowKit.Below w3.heap.size w3 w') (fun _ => []) so hsO Re w' ∧ Ow w5.heap.size w' st uL ∧ Ow w4.heap.size w' sr (plc (hln hs) hs.length) ∧ Ow w7.heap.size w' sb (vls (hln hs) hs.length R x) ∧ Ow w7.heap.size w' sw (wordV f K hs.length (G1 x))) (fun t _ => p - (toI (t 28)).toNat)
    ⟨by simp only [WS, ↓reduceIte, Nat.reduceEqDiff, reduceCtorEq]; exact t0, by simp only [WS, ↓reduceIte, Nat.reduceEqDiff, reduceCtorEq]; exact t1, by simp only [WS, ↓reduceIte, Nat.reduceEqDiff, reduceCtorEq]; exact t2, by simp only [WS, ↓reduceIte, Nat.reduceEqDiff, reduceCtorEq]; exact t3, by simp only [WS, ↓reduceIte, Nat.reduceEqDiff, reduceCtorEq]; exact t11, by simp only [WS, ↓reduceIte, Nat.reduceEqDiff, reduceCtorEq]; exact t13, by simp only [WS, ↓reduceIte, Nat.reduceEqDiff, reduceCtorEq]; exact t16, by simp only [WS, ↓reduceIte, Nat.reduceEqDiff, reduceCtorEq]; exact t18, by simp only [WS, ↓reduceIte, Nat.reduceEqDiff, reduceCtorEq]; exact t21, by simp only [WS, ↓reduceIte, Nat.reduceEqDiff, reduceCtorEq]; exact t22, by simp only [WS, ↓reduceIte, Nat.reduceEqDiff, reduceCtorEq]; exact t23, by simp only [WS, ↓reduceIte, Nat.reduceEqDiff, reduceCtorEq]; exact t25, z10, 0, tL, by simp only [WS, ↓reduceIte, Nat.reduceEqDiff, reduceCtorEq]; rfl, by omega, ltL, fun j hj => by
      rw [htL1 j hj, List.take_zero]
      exact ⟨Or.inl, fun e => e.elim id fun e => by cases e.1⟩, hO10, ot, or, ob, ow⟩ ?_
  clear t0 t1 t2 t3 t11 t13 t16 t18 t21 t22 t23 t25 t27 hO10 ot or ob ow htL1 ltL tL z10 hi hil eil
  rintro t w11 ⟨t0, t1, t2, t3, t11, t13, t16, t18, t21, t22, t23, t25, z11, c, uL, t28, hc, luL, huL, hO11, ot, or, ob, ow⟩
  by_cases hcp : c < p
  rotate_left
  · have ecp : c = p := by omega
    rw [ecp, hp, List.take_length] at huL
    simp (maxSteps := 1000000) (disch := omega) only [WS, ↓reduceIte, Nat.reduceEqDiff, reduceCtorEq, AS, t0, t1, t2, t3, t11, t13, t16, t18, t21, t22, t23, t25, t28, or.sl.Xlen, lpl, ecp]
    refine ⟨⟨by omega, x + 1, Re, G1, uL, rfl, by omega, hRel, fun j hj y hy => ?_, hGn, luL, fun j hj => ?_, hO11, ot, or⟩, by omega⟩
    · by_cases e : y = x
      · rw [e]; exact hRex j hj
      · exact hRev j hj y (by omega)
    · rw [huL j hj]
      constructor
      · rintro (⟨a1, y, hy, a2⟩ | ⟨a1, a2⟩)
        · exact ⟨a1, y, by omega, a2⟩
        · exact ⟨(prsL_mem.1 a1).2, x, by omega, a2⟩
      · rintro ⟨a1, y, hy, a2⟩
        by_cases e : y = x
        · subst e; exact Or.inr ⟨prsL_mem.2 ⟨by omega, a1⟩, a2⟩
        · exact Or.inl ⟨a1, y, by omega, a2⟩
  have i1 : c < (plc (hln hs) hs.length).length := by omega
  have i3 : c < (prsL (hln hs) hs.length).length := by omega
  have i2 : c < (vls (hln hs) hs.length R x).length := by omega
  have g1 := plc_get i1 i3
  have g2 := vls_get i2 i3
  obtain ⟨hq1, hq2⟩ := prsL_get i3
  have etk := List.take_succ_eq_append_getElem i3
  obtain ⟨q, hq⟩ : ∃ q, q = (prsL (hln hs) hs.length)[c] := ⟨_, rfl⟩
  rw [← hq] at g1 g2 hq1 hq2 etk
  have iw : q < (wordV f K hs.length (G1 x)).length := by omega
  have g3 := wordV_get iw
  have iu : q < uL.length := by omega
  simp (maxSteps := 1000000) (disch := omega) only [WS, ↓reduceIte, Nat.reduceEqDiff, reduceCtorEq, AS, t0, t1, t2, t3, t11, t13, t16, t18, t21, t22, t23, t25, t28, or.sl.Xlen, lpl]
  refine WP_dops ?_
  have bd := bel_drew w11
  have hO11 := hO11.up (frmB w3) bd
  have z11 := Nat.le_trans z11 bd.size
  have ot := ot.up bd
  have or := or.up bd
  have ob := ob.up bd
  have ow := ow.up bd
  clear bd
  by_cases heq : nth (R q) x = valS f K (G1 x) q
  · rw [heq] at g2
    simp (maxSteps := 1000000) (disch := omega) only [ES, List.mem_cons, List.not_mem_nil, implies_true, forall_const, WS, ↓reduceIte, Nat.reduceEqDiff, reduceCtorEq, AS, t0, t1, t2, t3, t11, t13, t16, t18, t21, t22, t23, t25, t28, or.sl.Eix i1, or.sl.Eld i1, cell_int, g1, ow.sl.Eix iw, ow.sl.Eld iw, cell_e8, g3, ob.sl.Eix i2, ob.sl.Eld i2, g2, ne_eq, not_true_eq_false, decide_false]
    refine ⟨⟨z11, c + 1, uL, rfl, by omega, luL, fun j hj => ?_, hO11, ot, or, ob, ow⟩, by omega⟩
    rw [huL j hj, etk]
    constructor
    · rintro (a | ⟨a1, a2⟩)
      · exact Or.inl a
      · exact Or.inr ⟨List.mem_append_left _ a1, a2⟩
    · rintro (a | ⟨a1, a2⟩)
      · exact Or.inl a
      · rcases List.mem_append.1 a1 with a3 | a3
        · exact Or.inr ⟨a3, a2⟩
        · rw [List.mem_singleton] at a3
          exact absurd (a3 ▸ heq) a2
  · have hne : ((valS f K (G1 x) q).v.toNat : Int) ≠ ((nth (R q) x).v.toNat : Int) := fun e => heq (El.ext (BitVec.eq_of_toNat_eq (by omega)))
    simp (maxSteps := 1000000) (disch := omega) only [ES, List.mem_cons, List.not_mem_nil, implies_true, forall_const, WS, ↓reduceIte, Nat.reduceEqDiff, reduceCtorEq, AS, t0, t1, t2, t3, t11, t13, t16, t18, t21, t22, t23, t25, t28, or.sl.Eix i1, or.sl.Eld i1, cell_int, g1, ow.sl.Eix iw, ow.sl.Eld iw, cell_e8, g3, ob.sl.Eix i2, ob.sl.Eld i2, g2, decide_eq_true hne]
    simp (maxSteps := 1000000) (disch := omega) only [WS, ↓reduceIte, Nat.reduceEqDiff, reduceCtorEq, AS, t0, t1, t2, t3, t11, t13, t16, t18, t21, t22, t23, t25, t28, or.sl.Xix i1, or.sl.Xld i1, cell_int, g1, ot.sl.Xix iu]
    refine Ow.Xst ot iu true fun w12 ot2 hg => ?_
    have hbt := ot.blk
    obtain ⟨bt, hbt0⟩ : ∃ bt, Fw.blk st = some bt := by
      obtain ⟨b, hb, -⟩ := ot.sl.blk_lt (by rintro rfl; simp at iu)
      exact ⟨b, hb⟩
    have hbt1 := (hbst bt hbt0)
    rw [hbt0] at hg
    have hO12 := ShM.grO (frmB w3) hO11 hg (by omega) (fun e => by have := hblv bt e; omega) (fun j hj hn e => by obtain ⟨b, hb, b1, b2⟩ := hblk j hj; rw [hb] at e; cases e; omega)
    have or := or.gr' hg fun y hy e => by cases hy; have := (hbsr _ e).2; omega
    have ob := ob.gr' hg fun y hy e => by cases hy; have := (ob.blk _ e).1; omega
    have ow := ow.gr' hg fun y hy e => by cases hy; have := (ow.blk _ e).1; omega
    have z11 := Nat.le_trans z11 hg.size
    simp (maxSteps := 1000000) (disch := omega) only [WS, ↓reduceIte, Nat.reduceEqDiff, reduceCtorEq, AS, t0, t1, t2, t3, t11, t13, t16, t18, t21, t22, t23, t25, t28]
    refine ⟨⟨z11, c + 1, _, rfl, by omega, by rw [List.length_set]; exact luL, fun j hj => ?_, hO12, ot2, or, ob, ow⟩, by omega⟩
    have hj' : j < uL.length := by rw [List.length_set] at hj; exact hj
    rw [List.getElem_set, etk]
    by_cases e : q = j
    · subst e
      simp only [if_true, true_iff]
      exact Or.inr ⟨List.mem_append_right _ (List.mem_singleton.2 rfl), heq⟩
    · rw [if_neg e, huL j hj']
      constructor
      · rintro (a | ⟨a1, a2⟩)
        · exact Or.inl a
        · exact Or.inr ⟨List.mem_append_left _ a1, a2⟩
      · rintro (a | ⟨a1, a2⟩)
        · exact Or.inl a
        · rcases List.mem_append.1 a1 with a3 | a3
          · exact Or.inr ⟨a3, a2⟩
          · rw [List.mem_singleton] at a3
            exact absurd a3.symm e
end Go.Proofs.Ytbaljbadlfopgaa.Fw
