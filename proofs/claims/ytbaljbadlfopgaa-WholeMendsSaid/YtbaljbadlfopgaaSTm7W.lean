import Derived.Test.YtbaljbadlfopgaaProg
import Derived.Test.YtbaljbadlfopgaaFwTW
import Derived.Test.YtbaljbadlfopgaaSTm5W
set_option linter.all false
set_option linter.unusedVariables false
set_option linter.unusedSimpArgs false
set_option maxRecDepth 100000
set_option maxHeartbeats 1000000
namespace Go.Proofs.Ytbaljbadlfopgaa.Fw
open Go Go.Fw Go.Proofs
attribute [local irreducible] stepI

end Go.Proofs.Ytbaljbadlfopgaa.Fw
namespace Go.Proofs.Ytbaljbadlfopgaa.Fw
open Go Go.Fw
theorem u64n (p : Int) : ∃ q : Nat, IntKind.u64.wrap p = (q : Int) := by
  have h1 : 0 ≤ p % 18446744073709551616 := Int.emod_nonneg _ (by decide)
  have e : IntKind.u64.wrap p = p % 18446744073709551616 := by simp [IntKind.wrap, IntKind.bits, IntKind.signed]
  rw [e]
  exact ⟨(p % 18446744073709551616).toNat, (Int.toNat_of_nonneg h1).symm⟩
theorem ShT.ofLst {B : Nat} {E : List (Value × List (El 8))} {w w' : World} {v : Value} (hL : Lst B E w) (hB : RowKit.Below w.heap.size w w') (hv : Ow w.heap.size w' v (E.map fun e => hd e.1)) (hBs : B ≤ w.heap.size) : ShT B v (E.map fun e => hd e.1) (fun j => (E.map fun e => e.2).getD j []) w' := by
  have gt : ∀ j (hj : j < (E.map fun e => hd e.1).length), ∃ e, E[j]? = some e ∧ (E.map fun e => hd e.1)[j] = hd e.1 ∧ (E.map fun e => e.2).getD j [] = e.2 ∧ Cell.v (hd e.1) = e.1 := fun j hj => by
    have hj' : j < E.length := by simpa using hj
    refine ⟨E[j], List.getElem?_eq_getElem hj', List.getElem_map .., ?_, (hL.ow j _ (List.getElem?_eq_getElem hj')).sl.hd.1⟩
    rw [List.getD_eq_getElem?_getD, List.getElem?_map, List.getElem?_eq_getElem hj']; rfl
  refine ⟨hv.mono hBs, fun j hj hn => ?_, fun j hj e => ?_, fun j hj hn e => ?_, fun i j hi hj hij a c e => ?_, trivial⟩
  · obtain ⟨e, h1, h2, h3, h4⟩ := gt j hj
    rw [h3] at hn ⊢
    rw [h2, h4]
    exact OwT.of0 ((hL.ow j e h1).up hB) hn
  · obtain ⟨e', h1, h2, h3, h4⟩ := gt j hj
    rw [h3] at e
    rw [h2, (hL.ow j e' h1).sl.hd.2, e]; rfl
  · obtain ⟨e', h1, h2, h3, h4⟩ := gt j hj
    rw [h3] at hn
    rw [h2, h4] at e
    obtain ⟨b, hb, b1, b2⟩ := (OwT.of0 (hL.ow j e' h1) hn).blk
    rw [hb] at e
    have := (hv.blk b e.symm).1
    omega
  · obtain ⟨e1, h1, h2, h3, h4⟩ := gt i hi
    obtain ⟨e2, g1, g2, g3, g4⟩ := gt j hj
    rw [h3] at a
    rw [h2, g2, h4, g4] at e
    obtain ⟨b, hb, -⟩ := (OwT.of0 (hL.ow i e1 h1) a).blk
    exact hL.ap i j e1 e2 b h1 g1 hij hb (e.symm.trans hb)
theorem valS_const (c : El 8) (s : Nat) : valS 0 1 [c] s = c := by
  unfold valS wt
  rw [if_neg (by decide), inv_one8, El.mul_one]
  show c + en8 s * 0 = c
  rw [El.mul_zero, El.add_zero]
def one3 : List (List (El 8)) := [[⟨5⟩, ⟨1⟩], [⟨5⟩, ⟨2⟩], [⟨6⟩, ⟨2⟩]]
def oneR (j : Nat) : List (El 8) := one3.getD j []
def oneG (t : Nat) : List (El 8) := if t = 0 then [⟨5⟩] else [⟨2⟩]
theorem oneRow (s : Nat) : rowS 0 1 oneG 2 s = [⟨5⟩, ⟨2⟩] := by
  show [valS 0 1 [⟨5⟩] s, valS 0 1 [⟨2⟩] s] = _
  rw [valS_const, valS_const]
theorem oneL : ∀ j, j < 3 → (oneR j).length = 2 := by decide
theorem one_sh {L : Nat → Nat} (hL : ∀ j, j < 3 → L j = (oneR j).length) : ShR 0 1 2 L 3 oneR 0 (fun _ => [⟨5⟩, ⟨2⟩]) [0, 2] := by
  have l2 : ∀ j, j < 3 → L j = 2 := fun j hj => by rw [hL j hj, oneL j hj]
  have hp : prsL L 3 = [0, 1, 2] := (prsL_all fun j hj => by rw [l2 j hj]; decide).trans (by decide)
  have hz : (zis L 3).length = 0 := by have := prsL_len L 3; rw [hp] at this; simpa using this
  have hLn : Lns L 3 2 true := ⟨⟨fun e => absurd e (by decide), fun e => by have := e 0 (by decide); rw [l2 0 (by decide)] at this; exact absurd this (by decide)⟩, ⟨fun _ j hj => Or.inr (l2 j hj), fun _ => rfl⟩, fun _ => ⟨0, by decide, l2 0 (by decide)⟩⟩
  obtain ⟨hw, -⟩ := wer_ok (f := 0) (k := 1) (m := 2) (T := 2) (Or.inl rfl) (by decide) (by decide) (by decide) (by decide) hLn (by decide) (fun j hj => Or.inr (l2 j hj)) (by rw [hz]; decide)
  refine ⟨2, true, fun _ => hLn, Or.inr ⟨hw, ⟨Or.inl rfl, by decide, by decide, by decide, by decide, by decide, fun j hj => Or.inr (l2 j hj), by rw [hz]; decide⟩, Or.inr ⟨rfl, oneG, ?_, fun t ht => ?_, ?_⟩⟩⟩
  · exact funext fun s => (oneRow s).symm
  · have key : ∀ c : El 8, oneG t = [c] → ((prsL L 3).filter fun s => !decide (nth (oneR s) t = c)).length ≤ 1 → tr [c] = [c] → nearS 0 (Int.toNat 1) L 3 oneR t (oneG t) := fun c e h ht => by
      rw [e]
      refine ⟨ht, by show [c].length ≤ 1; simp, ?_⟩
      show (offS 0 1 L 3 oneR t [c]).length ≤ _
      rw [offS_len (by decide) (by decide), hp]
      rw [hp] at h
      simp only [valS_const]
      exact h
    rcases (show t = 0 ∨ t = 1 by omega) with rfl | rfl
    · exact key ⟨5⟩ rfl (by rw [hp]; decide) (by decide)
    · exact key ⟨2⟩ rfl (by rw [hp]; decide) (by decide)
  · rw [hp]
    simp only [show Int.toNat 1 = 1 from rfl, oneRow]
    decide
end Go.Proofs.Ytbaljbadlfopgaa.Fw

set_option linter.unusedVariables false
set_option linter.unusedSimpArgs false
set_option maxRecDepth 100000
set_option maxHeartbeats 1000000
namespace Go.Proofs.Ytbaljbadlfopgaa.Fw
open Go Go.Fw Go.Proofs
attribute [local irreducible] stepI
def c_cullettop_WholeMends : C := .seq (.ops [⟨0,some 1,none,.box 90 (.t 0),[]⟩,⟨1,some 2,none,.mov (.c (.bool false)),[]⟩]) (.seq (.dops [⟨0,some 25,none,.fad 0 (.t 1),[]⟩,⟨1,some 26,none,.ld (.t 25),[]⟩,⟨2,some 27,none,.fad 1 (.t 1),[]⟩,⟨3,some 28,none,.ld (.t 27),[]⟩,⟨4,some 29,none,.fad 2 (.t 1),[]⟩,⟨5,some 30,none,.ld (.t 29),[]⟩,⟨6,some 31,none,.fad 3 (.t 1),[]⟩,⟨7,some 32,none,.ld (.t 31),[]⟩,⟨8,some 33,none,.fad 4 (.t 1),[]⟩,⟨9,some 34,none,.ld (.t 33),[]⟩,⟨10,some 3,none,.mov (.t 26),[]⟩,⟨11,some 4,none,.mov (.t 28),[]⟩,⟨12,some 5,none,.mov (.t 30),[]⟩,⟨13,some 6,none,.mov (.t 32),[]⟩,⟨14,some 7,none,.mov (.t 34),[]⟩]) (.seq (.ops [⟨0,some 35,none,.bsl 5 2 [.int .u8 0] [(0,(1,.c (.int .u8 5))),(1,(1,.c (.int .u8 1)))],[]⟩,⟨1,some 36,none,.bsl 5 2 [.int .u8 0] [(0,(1,.c (.int .u8 5))),(1,(1,.c (.int .u8 2)))],[]⟩,⟨2,some 37,none,.bsl 5 2 [.int .u8 0] [(0,(1,.c (.int .u8 6))),(1,(1,.c (.int .u8 2)))],[]⟩,⟨3,some 38,none,.bsl 25 3 [.slice none 0 0] [(0,(1,.t 35)),(1,(1,.t 36)),(2,(1,.t 37))],[]⟩,⟨4,some 8,none,.mov (.t 38),[]⟩]) (.seq (.ops [⟨0,some 40,none,.mov (.t 8),[]⟩,⟨1,some 41,none,.call (.c (.func (.func 24) #[] #[])) [.c (.int .i64 0),.c (.int .i64 1),.c (.int .i64 2),.t 40],[]⟩,⟨2,some 39,none,.mov (.t 41),[]⟩,⟨3,some 42,none,.ext (.t 39) 0,[]⟩,⟨4,some 43,none,.ext (.t 39) 1,[]⟩,⟨5,some 9,none,.mov (.t 42),[]⟩,⟨6,some 10,none,.mov (.t 43),[]⟩]) (.seq (.seq (.ops [⟨0,some 44,none,.mov (.t 10),[]⟩,⟨1,some 45,none,.bin .neq (.t 44) (.c (.int .i64 0)),[]⟩,⟨2,some 46,none,.mov (.t 45),[]⟩,⟨3,some 47,(some (46,false)),.mov (.t 9),[]⟩,⟨4,some 48,(some (46,false)),.bsl 3 2 [.int .i64 0] [(0,(1,.c (.int .i64 0))),(1,(1,.c (.int .i64 2)))],[]⟩,⟨5,some 49,(some (46,false)),.call (.c (.func (.func 44) #[] #[])) [.t 47,.t 48],[]⟩,⟨6,some 50,(some (46,false)),.un .not (.t 49),[]⟩,⟨7,some 51,none,.pick (.t 46) (.c (.bool true)) (.t 50),[]⟩,⟨8,some 52,none,.mov (.t 51),[]⟩,⟨9,some 53,(some (52,false)),.mov (.t 8),[]⟩,⟨10,some 54,(some (52,false)),.bsl 5 2 [.int .u8 0] [(0,(1,.c (.int .u8 5))),(1,(1,.c (.int .u8 2)))],[]⟩,⟨11,some 55,(some (52,false)),.bsl 5 2 [.int .u8 0] [(0,(1,.c (.int .u8 5))),(1,(1,.c (.int .u8 2)))],[]⟩,⟨12,some 56,(some (52,false)),.bsl 5 2 [.int .u8 0] [(0,(1,.c (.int .u8 5))),(1,(1,.c (.int .u8 2)))],[]⟩,⟨13,some 57,(some (52,false)),.bsl 25 3 [.slice none 0 0] [(0,(1,.t 54)),(1,(1,.t 55)),(2,(1,.t 56))],[]⟩,⟨14,some 58,(some (52,false)),.call (.c (.func (.func 45) #[] #[])) [.t 53,.t 57],[]⟩,⟨15,some 59,(some (52,false)),.un .not (.t 58),[]⟩,⟨16,some 60,none,.pick (.t 52) (.c (.bool true)) (.t 59),[]⟩]) (.ite (.t 60) (.seq (.ops [⟨0,some 2,none,.mov (.c (.bool false)),[]⟩]) .ret) .skip)) (.seq (.ops [⟨0,some 61,none,.mov (.t 5),[]⟩,⟨1,some 62,none,.len (.t 61),[]⟩,⟨2,some 11,none,.mov (.t 62),[]⟩]) (.seq (.seq (.ops [⟨0,some 63,none,.mov (.t 3),[]⟩,⟨1,some 64,none,.bin .eql (.t 63) (.c (.int .i64 2)),[]⟩,⟨2,some 65,none,.mov (.t 64),[]⟩,⟨3,some 66,(some (65,false)),.mov (.t 3),[]⟩,⟨4,some 67,(some (65,false)),.mov (.t 11),[]⟩,⟨5,some 68,(some (65,false)),.mov (.t 4),[]⟩,⟨6,some 69,(some (65,false)),.call (.c (.func (.func 32) #[] #[])) [.t 66,.t 67,.t 68],[]⟩,⟨7,some 70,(some (65,false)),.un .not (.t 69),[]⟩,⟨8,some 71,none,.pick (.t 65) (.c (.bool true)) (.t 70),[]⟩,⟨9,some 72,none,.mov (.t 71),[]⟩,⟨10,some 73,(some (72,false)),.mov (.t 3),[]⟩,⟨11,some 74,(some (72,false)),.mov (.t 11),[]⟩,⟨12,some 75,(some (72,false)),.mov (.t 5),[]⟩,⟨13,some 76,(some (72,false)),.call (.c (.func (.func 46) #[] #[])) [.t 73,.t 74,.t 75],[]⟩,⟨14,some 77,(some (72,false)),.un .not (.t 76),[]⟩,⟨15,some 78,none,.pick (.t 72) (.c (.bool true)) (.t 77),[]⟩,⟨16,some 79,none,.mov (.t 78),[]⟩,⟨17,some 80,(some (79,false)),.mov (.t 5),[]⟩,⟨18,some 81,(some (79,false)),.ixs 1 (.t 80) (.c (.int .i64 0)),[]⟩,⟨19,some 82,(some (79,false)),.ld (.t 81),[]⟩,⟨20,some 83,(some (79,false)),.len (.t 82),[]⟩,⟨21,some 84,(some (79,false)),.mov (.t 11),[]⟩,⟨22,some 85,(some (79,false)),.mov (.t 4),[]⟩,⟨23,some 86,(some (79,false)),.bin .add (.t 84) (.t 85),[]⟩,⟨24,some 87,(some (79,false)),.bin .mul (.t 83) (.t 86),[]⟩,⟨25,some 88,(some (79,false)),.mov (.t 11),[]⟩,⟨26,some 89,(some (79,false)),.mov (.t 4),[]⟩,⟨27,some 90,(some (79,false)),.bin .add (.t 88) (.t 89),[]⟩,⟨28,some 91,(some (79,false)),.bin .mul (.t 87) (.t 90),[]⟩,⟨29,some 92,(some (79,false)),.bin .gtr (.t 91) (.c (.int .i64 1048576)),[]⟩,⟨30,some 93,none,.pick (.t 79) (.c (.bool true)) (.t 92),[]⟩]) (.ite (.t 93) (.seq (.ops [⟨0,some 2,none,.mov (.c (.bool true)),[]⟩]) .ret) .skip)) (.seq (.ops [⟨0,some 94,none,.mov (.t 3),[]⟩,⟨1,some 95,none,.mov (.t 11),[]⟩,⟨2,some 96,none,.mov (.t 4),[]⟩,⟨3,some 97,none,.mov (.t 5),[]⟩,⟨4,some 98,none,.call (.c (.func (.func 47) #[] #[])) [.t 94,.t 95,.t 96,.t 97],[]⟩,⟨5,some 12,none,.mov (.t 98),[]⟩]) (.seq (.ops [⟨0,some 99,none,.mov (.t 12),[]⟩,⟨1,some 100,none,.call (.c (.func (.func 48) #[] #[])) [.t 99],[]⟩,⟨2,some 13,none,.mov (.t 100),[]⟩]) (.seq (.ops [⟨0,some 101,none,.mov (.t 4),[]⟩,⟨1,some 14,none,.mov (.t 101),[]⟩]) (.seq (.seq (.ops [⟨0,some 102,none,.mov (.t 6),[]⟩,⟨1,some 103,none,.len (.t 102),[]⟩,⟨2,some 104,none,.mov (.c (.int .i64 0)),[]⟩]) (.block 0 (.loop (.seq (.ops [⟨0,some 105,none,.bin .lss (.t 104) (.t 103),[]⟩]) (.seq (.ite (.t 105) .skip (.exit 0)) (.seq (.block 1 (.seq (.ops [⟨0,some 106,none,.ixs 1 (.t 102) (.t 104),[]⟩,⟨1,some 107,none,.ld (.t 106),[]⟩,⟨2,some 16,none,.mov (.t 107),[]⟩]) (.seq (.ops [⟨0,some 108,none,.mov (.t 16),[]⟩,⟨1,some 109,none,.cnv .u64 (.t 108),[]⟩,⟨2,some 110,none,.mov (.t 11),[]⟩,⟨3,some 111,none,.mov (.t 4),[]⟩,⟨4,some 112,none,.bin .add (.t 110) (.t 111),[]⟩,⟨5,some 113,none,.cnv .u64 (.t 112),[]⟩,⟨6,some 114,none,.bin .rem (.t 109) (.t 113),[]⟩,⟨7,some 115,none,.cnv .i64 (.t 114),[]⟩,⟨8,some 17,none,.mov (.t 115),[]⟩]) (.seq (.ops [⟨0,some 116,none,.mov (.t 14),[]⟩,⟨1,some 117,none,.bin .gtr (.t 116) (.c (.int .i64 0)),[]⟩,⟨2,some 118,none,.mov (.t 117),[]⟩,⟨3,some 119,(some (118,true)),.mov (.t 13),[]⟩,⟨4,some 120,(some (118,true)),.mov (.t 17),[]⟩,⟨5,some 121,(some (118,true)),.ixs 1 (.t 119) (.t 120),[]⟩,⟨6,some 122,(some (118,true)),.ld (.t 121),[]⟩,⟨7,some 123,(some (118,true)),.len (.t 122),[]⟩,⟨8,some 124,(some (118,true)),.bin .gtr (.t 123) (.c (.int .i64 0)),[]⟩,⟨9,some 125,none,.pick (.t 118) (.t 124) (.c (.bool false)),[]⟩]) (.ite (.t 125) (.seq (.ops [⟨0,some 126,none,.mov (.t 13),[]⟩,⟨1,some 127,none,.mov (.t 17),[]⟩,⟨2,some 128,none,.ixs 1 (.t 126) (.t 127),[]⟩,⟨3,none,none,.st (.t 128) (.c (.slice none 0 0)),[]⟩]) (.ops [⟨0,some 129,none,.mov (.t 14),[]⟩,⟨1,some 130,none,.bin .sub (.t 129) (.c (.int .i64 1)),[]⟩,⟨2,some 14,none,.mov (.t 130),[]⟩])) .skip))))) (.ops [⟨0,some 131,none,.bin .add (.t 104) (.c (.int .i64 1)),[]⟩,⟨1,some 104,none,.mov (.t 131),[]⟩]))))))) (.seq (.seq (.ops [⟨0,some 132,none,.mov (.t 7),[]⟩,⟨1,some 133,none,.len (.t 132),[]⟩,⟨2,some 134,none,.mov (.c (.int .i64 0)),[]⟩]) (.block 2 (.loop (.seq (.ops [⟨0,some 135,none,.bin .lss (.t 134) (.t 133),[]⟩]) (.seq (.ite (.t 135) .skip (.exit 2)) (.seq (.block 3 (.seq (.ops [⟨0,some 136,none,.ixs 3 (.t 132) (.t 134),[]⟩,⟨1,some 137,none,.ldn 3 (.t 136),[]⟩,⟨2,some 19,none,.alloc 94 [.int .i64 0,.int .i64 0,.int .u8 0],[]⟩,⟨3,none,none,.stn 3 (.t 19) (.t 137),[]⟩]) (.seq (.ops [⟨0,some 138,none,.fad 0 (.t 19),[]⟩,⟨1,some 139,none,.ld (.t 138),[]⟩,⟨2,some 140,none,.cnv .u64 (.t 139),[]⟩,⟨3,some 141,none,.mov (.t 11),[]⟩,⟨4,some 142,none,.mov (.t 4),[]⟩,⟨5,some 143,none,.bin .add (.t 141) (.t 142),[]⟩,⟨6,some 144,none,.cnv .u64 (.t 143),[]⟩,⟨7,some 145,none,.bin .rem (.t 140) (.t 144),[]⟩,⟨8,some 146,none,.cnv .i64 (.t 145),[]⟩,⟨9,some 20,none,.mov (.t 146),[]⟩]) (.seq (.ops [⟨0,some 147,none,.mov (.t 13),[]⟩,⟨1,some 148,none,.mov (.t 20),[]⟩,⟨2,some 149,none,.ixs 1 (.t 147) (.t 148),[]⟩,⟨3,some 150,none,.ld (.t 149),[]⟩,⟨4,some 151,none,.len (.t 150),[]⟩,⟨5,some 152,none,.bin .gtr (.t 151) (.c (.int .i64 0)),[]⟩]) (.ite (.t 152) (.dops [⟨0,some 153,none,.mov (.t 13),[]⟩,⟨1,some 154,none,.mov (.t 20),[]⟩,⟨2,some 155,none,.ixs 1 (.t 153) (.t 154),[]⟩,⟨3,some 156,none,.ld (.t 155),[]⟩,⟨4,some 157,none,.fad 1 (.t 19),[]⟩,⟨5,some 158,none,.ld (.t 157),[]⟩,⟨6,some 159,none,.cnv .u64 (.t 158),[]⟩,⟨7,some 160,none,.mov (.t 13),[]⟩,⟨8,some 161,none,.mov (.t 20),[]⟩,⟨9,some 162,none,.ixs 1 (.t 160) (.t 161),[]⟩,⟨10,some 163,none,.ld (.t 162),[]⟩,⟨11,some 164,none,.len (.t 163),[]⟩,⟨12,some 165,none,.cnv .u64 (.t 164),[]⟩,⟨13,some 166,none,.bin .rem (.t 159) (.t 165),[]⟩,⟨14,some 167,none,.cnv .i64 (.t 166),[]⟩,⟨15,some 168,none,.ixs 1 (.t 156) (.t 167),[]⟩,⟨16,some 169,none,.ld (.t 168),[]⟩,⟨17,some 170,none,.fad 2 (.t 19),[]⟩,⟨18,some 171,none,.ld (.t 170),[]⟩,⟨19,some 172,none,.bin .xor (.t 169) (.t 171),[]⟩,⟨20,some 173,none,.ixs 1 (.t 156) (.t 167),[]⟩,⟨21,none,none,.st (.t 173) (.t 172),[]⟩]) .skip))))) (.ops [⟨0,some 174,none,.bin .add (.t 134) (.c (.int .i64 1)),[]⟩,⟨1,some 134,none,.mov (.t 174),[]⟩]))))))) (.seq (.ops [⟨0,some 176,none,.mov (.t 13),[]⟩,⟨1,some 177,none,.mov (.t 12),[]⟩,⟨2,some 178,none,.mov (.t 14),[]⟩,⟨3,some 179,none,.bin .quo (.t 178) (.c (.int .i64 2)),[]⟩,⟨4,some 180,none,.call (.c (.func (.func 49) #[] #[])) [.t 176,.t 177,.t 179],[]⟩,⟨5,some 175,none,.mov (.t 180),[]⟩,⟨6,some 181,none,.ext (.t 175) 0,[]⟩,⟨7,some 182,none,.ext (.t 175) 1,[]⟩,⟨8,some 21,none,.mov (.t 181),[]⟩,⟨9,some 22,none,.mov (.t 182),[]⟩]) (.seq (.ops [⟨0,some 183,none,.mov (.t 13),[]⟩,⟨1,some 184,none,.call (.c (.func (.func 48) #[] #[])) [.t 183],[]⟩,⟨2,some 23,none,.mov (.t 184),[]⟩]) (.seq (.ops [⟨0,some 186,none,.mov (.t 3),[]⟩,⟨1,some 187,none,.mov (.t 11),[]⟩,⟨2,some 188,none,.mov (.t 4),[]⟩,⟨3,some 189,none,.mov (.t 13),[]⟩,⟨4,some 190,none,.call (.c (.func (.func 24) #[] #[])) [.t 186,.t 187,.t 188,.t 189],[]⟩,⟨5,some 185,none,.mov (.t 190),[]⟩,⟨6,some 191,none,.ext (.t 185) 0,[]⟩,⟨7,some 192,none,.ext (.t 185) 1,[]⟩,⟨8,some 24,none,.mov (.t 191),[]⟩,⟨9,some 10,none,.mov (.t 192),[]⟩]) (.seq (.seq (.ops [⟨0,some 193,none,.mov (.t 21),[]⟩]) (.ite (.t 193) (.seq (.ops [⟨0,some 194,none,.mov (.t 10),[]⟩,⟨1,some 195,none,.bin .eql (.t 194) (.c (.int .i64 0)),[]⟩,⟨2,some 196,none,.mov (.t 195),[]⟩,⟨3,some 197,(some (196,true)),.mov (.t 13),[]⟩,⟨4,some 198,(some (196,true)),.mov (.t 12),[]⟩,⟨5,some 199,(some (196,true)),.call (.c (.func (.func 45) #[] #[])) [.t 197,.t 198],[]⟩,⟨6,some 200,none,.pick (.t 196) (.t 199) (.c (.bool false)),[]⟩,⟨7,some 201,none,.mov (.t 200),[]⟩,⟨8,some 202,(some (201,true)),.mov (.t 24),[]⟩,⟨9,some 203,(some (201,true)),.mov (.t 22),[]⟩,⟨10,some 204,(some (201,true)),.call (.c (.func (.func 44) #[] #[])) [.t 202,.t 203],[]⟩,⟨11,some 205,none,.pick (.t 201) (.t 204) (.c (.bool false)),[]⟩,⟨12,some 2,none,.mov (.t 205),[]⟩]) .ret) .skip)) (.seq (.seq (.ops [⟨0,some 206,none,.mov (.t 10),[]⟩,⟨1,some 207,none,.bin .neq (.t 206) (.c (.int .i64 0)),[]⟩]) (.ite (.t 207) (.seq (.ops [⟨0,some 208,none,.mov (.t 10),[]⟩,⟨1,some 209,none,.bin .eql (.t 208) (.c (.int .i64 190)),[]⟩,⟨2,some 210,none,.mov (.t 209),[]⟩,⟨3,some 211,(some (210,true)),.mov (.t 13),[]⟩,⟨4,some 212,(some (210,true)),.mov (.t 23),[]⟩,⟨5,some 213,(some (210,true)),.call (.c (.func (.func 45) #[] #[])) [.t 211,.t 212],[]⟩,⟨6,some 214,none,.pick (.t 210) (.t 213) (.c (.bool false)),[]⟩,⟨7,some 2,none,.mov (.t 214),[]⟩]) .ret) .skip)) (.seq (.seq (.dops [⟨0,some 215,none,.mov (.t 13),[]⟩,⟨1,some 216,none,.len (.t 215),[]⟩,⟨2,some 217,none,.mov (.t 11),[]⟩,⟨3,some 218,none,.mov (.t 4),[]⟩,⟨4,some 219,none,.bin .add (.t 217) (.t 218),[]⟩,⟨5,some 220,none,.bin .neq (.t 216) (.t 219),[]⟩,⟨6,some 221,none,.mov (.t 220),[]⟩,⟨7,some 222,(some (221,false)),.mov (.t 3),[]⟩,⟨8,some 223,(some (221,false)),.mov (.t 11),[]⟩,⟨9,some 224,(some (221,false)),.mov (.t 13),[]⟩,⟨10,some 225,(some (221,false)),.mov (.t 11),[]⟩,⟨11,some 226,(some (221,false)),.slc 1 (.t 224) none (some (.t 225)) none,[]⟩,⟨12,some 227,(some (221,false)),.call (.c (.func (.func 46) #[] #[])) [.t 222,.t 223,.t 226],[]⟩,⟨13,some 228,(some (221,false)),.un .not (.t 227),[]⟩,⟨14,some 229,none,.pick (.t 221) (.c (.bool true)) (.t 228),[]⟩,⟨15,some 230,none,.mov (.t 229),[]⟩,⟨16,some 231,(some (230,false)),.mov (.t 13),[]⟩,⟨17,some 232,(some (230,false)),.ixs 1 (.t 231) (.c (.int .i64 0)),[]⟩,⟨18,some 233,(some (230,false)),.ld (.t 232),[]⟩,⟨19,some 234,(some (230,false)),.len (.t 233),[]⟩,⟨20,some 235,(some (230,false)),.mov (.t 5),[]⟩,⟨21,some 236,(some (230,false)),.ixs 1 (.t 235) (.c (.int .i64 0)),[]⟩,⟨22,some 237,(some (230,false)),.ld (.t 236),[]⟩,⟨23,some 238,(some (230,false)),.len (.t 237),[]⟩,⟨24,some 239,(some (230,false)),.bin .neq (.t 234) (.t 238),[]⟩,⟨25,some 240,none,.pick (.t 230) (.c (.bool true)) (.t 239),[]⟩,⟨26,some 241,none,.mov (.t 240),[]⟩,⟨27,some 242,(some (241,false)),.mov (.t 13),[]⟩,⟨28,some 243,(some (241,false)),.mov (.t 3),[]⟩,⟨29,some 244,(some (241,false)),.mov (.t 11),[]⟩,⟨30,some 245,(some (241,false)),.mov (.t 4),[]⟩,⟨31,some 246,(some (241,false)),.mov (.t 13),[]⟩,⟨32,some 247,(some (241,false)),.mov (.t 11),[]⟩,⟨33,some 248,(some (241,false)),.slc 1 (.t 246) none (some (.t 247)) none,[]⟩,⟨34,some 249,(some (241,false)),.call (.c (.func (.func 47) #[] #[])) [.t 243,.t 244,.t 245,.t 248],[]⟩,⟨35,some 250,(some (241,false)),.call (.c (.func (.func 45) #[] #[])) [.t 242,.t 249],[]⟩,⟨36,some 251,(some (241,false)),.un .not (.t 250),[]⟩,⟨37,some 252,none,.pick (.t 241) (.c (.bool true)) (.t 251),[]⟩]) (.ite (.t 252) (.seq (.ops [⟨0,some 2,none,.mov (.c (.bool false)),[]⟩]) .ret) .skip)) (.seq (.ops [⟨0,some 254,none,.mov (.t 23),[]⟩,⟨1,some 255,none,.mov (.t 13),[]⟩,⟨2,some 256,none,.mov (.t 14),[]⟩,⟨3,some 257,none,.bin .quo (.t 256) (.c (.int .i64 2)),[]⟩,⟨4,some 258,none,.call (.c (.func (.func 49) #[] #[])) [.t 254,.t 255,.t 257],[]⟩,⟨5,some 253,none,.mov (.t 258),[]⟩,⟨6,some 259,none,.ext (.t 253) 0,[]⟩,⟨7,some 260,none,.ext (.t 253) 1,[]⟩,⟨8,some 21,none,.mov (.t 259),[]⟩,⟨9,some 22,none,.mov (.t 260),[]⟩]) (.seq (.ops [⟨0,some 261,none,.mov (.t 21),[]⟩,⟨1,some 262,none,.mov (.t 261),[]⟩,⟨2,some 263,(some (262,true)),.mov (.t 24),[]⟩,⟨3,some 264,(some (262,true)),.mov (.t 22),[]⟩,⟨4,some 265,(some (262,true)),.call (.c (.func (.func 44) #[] #[])) [.t 263,.t 264],[]⟩,⟨5,some 266,none,.pick (.t 262) (.t 265) (.c (.bool false)),[]⟩,⟨6,some 2,none,.mov (.t 266),[]⟩]) .ret)))))))))))))))))))
attribute [irreducible] c_cullettop_WholeMends
theorem run_cullettop_WholeMends {args : List Value} {w : World} {K : Value → World → Prop} (hn : args.length ≤ 267) (h : WP Try.prog c_cullettop_WholeMends (endQ [.t 2] K) (initT args) w) : CallV Try.prog 12 args w K :=
  call_of follows Try.func12 (by kernel_rfl) (by kernel_rfl) hn h
end Go.Proofs.Ytbaljbadlfopgaa.Fw
namespace Go.Proofs.Ytbaljbadlfopgaa.Fw
open Go Go.Fw
theorem prsL_congr {L L' : Nat → Nat} : ∀ n, (∀ j, j < n → L j = L' j) → prsL L n = prsL L' n
  | 0, _ => rfl
  | n + 1, h => by
    rw [prsL_succ, prsL_succ, prsL_congr n fun j hj => h j (by omega), h n (by omega)]
/-- What ShR says does not hang on rows beyond. -/
theorem cn_offs {f : Int} {K : Nat} {L : Nat → Nat} {n : Nat} {Rs : Nat → List (El 8)} {G : Nat → List (El 8)} {len t : Nat} (hn : n ≤ 256) (hK : K ≤ 256) (hL : ∀ j, j < n → L j = (Rs j).length) (ht : t < len) : (offS f K L n Rs t (G t)).length = cn Rs (rowS f K G len) n t := by
  rw [offS_len hn hK]
  unfold cn
  rw [prsL_congr n hL]
  congr 1
  refine List.filter_congr fun s _ => ?_
  have h9 : t < (rowS f K G len s).length := by rw [rowS_len]; exact ht
  rw [nth_get h9, rowS_get h9]
theorem wrg_filter {L : Nat → Nat} {n : Nat} {Rs Rw : Nat → List (El 8)} (hL : ∀ j, j < n → L j = (Rs j).length) : ((prsL L n).filter fun s => !decide (Rs s = Rw s)).map (fun (j : Nat) => (j : Int)) = wrg Rs Rw n := by
  unfold wrg
  rw [prsL_congr n hL]
theorem zis_zc {L : Nat → Nat} {n : Nat} {R : Nat → List (El 8)} (hL : ∀ j, j < n → L j = (R j).length) : (zis L n).length = zc R n := by
  have h1 := prsL_len L n
  have h2 := prsL_len (fun j => (R j).length) n
  rw [prsL_congr n hL] at h1
  unfold zc
  omega
set_option maxHeartbeats 32000000 in
theorem cullettop_WholeMends_spec (w : World) (f m : Int) (sd lo hi : Value) (hsd : List Hd) (D : Nat → List (El 8)) (Lo : List Int) (HT : List (List Value)) (h : Sl w sd hsd) (hr : ∀ j (hj : j < hsd.length), Sl w (Cell.v hsd[j]) (D j)) (hlo : Sl w lo Lo) (hht : Slw 3 w hi HT) (hq : ∀ vs ∈ HT, ∃ (a c : Int) (x : El 8), vs = [.int .i64 a, .int .i64 c, .int .u8 (x.v.toNat : Int)])
    (hb : ∀ j, j < hsd.length → (D j).length ≤ 140737488351232) (hn : hsd.length ≤ 140737488351232) (hLb : Lo.length ≤ 70368744175616) (hHb : HT.length ≤ 70368744175616) :
    CallV Try.prog 12 [.agg #[.int .i64 f, .int .i64 m, sd, lo, hi]] w fun v w' => v = .bool true ∧ RowKit.Below w.heap.size w w' := by
  have hlr : ∀ j, j < hsd.length → hln hsd j = (D j).length := fun j hj => hln_row hr hj
  refine run_cullettop_WholeMends (by simp) ?_
  simp only [c_cullettop_WholeMends, WS, ↓reduceIte, Nat.reduceEqDiff, reduceCtorEq]
  refine X_box fun b w1 hrb hlb hB => ?_
  have hrb : Row w1 b [.int .i64 f, .int .i64 m, sd, lo, hi] := hrb
  have B := hB
  have hr := fun j hj => (hr j hj).up hB
  have h := h.up hB
  have hlo := hlo.up hB
  have hht := hht.up hB
  clear hB hlb
  simp (maxSteps := 1000000) (disch := omega) only [WS, ↓reduceIte, Nat.reduceEqDiff, reduceCtorEq, AS]
  refine WP_dops ?_
  have bd := bel_drew w1
  have hr := fun j hj => (hr j hj).up bd
  have h := h.up bd
  have hrb := hrb.up bd
  have hlo := hlo.up bd
  have hht := hht.up bd
  have B := B.trans (bd.mono B.size)
  clear bd
  simp (maxSteps := 1000000) (disch := omega) only [ES, List.mem_cons, List.not_mem_nil, implies_true, forall_const, WS, ↓reduceIte, Nat.reduceEqDiff, reduceCtorEq, AS, hrb.Eld (show 0 < _ by simp), hrb.Eld (show 1 < _ by simp), hrb.Eld (show 2 < _ by simp), hrb.Eld (show 3 < _ by simp), hrb.Eld (show 4 < _ by simp)]
  refine X_bsl (zs := ([⟨5⟩, ⟨1⟩] : List (El 8))) (by rfl) (by rfl) fun a1 w2 oa1 hB1 => ?_
  simp (maxSteps := 1000000) (disch := omega) only [WS, ↓reduceIte, Nat.reduceEqDiff, reduceCtorEq, AS]
  refine X_bsl (zs := ([⟨5⟩, ⟨2⟩] : List (El 8))) (by rfl) (by rfl) fun a2 w3 oa2 hB2 => ?_
  simp (maxSteps := 1000000) (disch := omega) only [WS, ↓reduceIte, Nat.reduceEqDiff, reduceCtorEq, AS]
  refine X_bsl (zs := ([⟨6⟩, ⟨2⟩] : List (El 8))) (by rfl) (by rfl) fun a3 w4 oa3 hB3 => ?_
  simp (maxSteps := 1000000) (disch := omega) only [WS, ↓reduceIte, Nat.reduceEqDiff, reduceCtorEq, AS]
  have hc1 : Cell.v (hd a1) = a1 := oa1.sl.hd.1
  have hc2 : Cell.v (hd a2) = a2 := oa2.sl.hd.1
  have hc3 : Cell.v (hd a3) = a3 := oa3.sl.hd.1
  rw [← hc1, ← hc2, ← hc3]
  refine X_bsl (zs := [hd a1, hd a2, hd a3]) (by rfl) (by rfl) fun sv w5 ov hB4 => ?_
  have z1 := hB1.size
  have z2 := hB2.size
  have z3 := hB3.size
  have z4 := hB4.size
  have hL1 := (Lst.nil (α := El 8) w1.drew.heap.size w1.drew).push hB1 (Nat.le_refl _) oa1
  have hL2 := hL1.push hB2 z1 oa2
  have hL3 := hL2.push hB3 (by omega) oa3
  have hS0 : ShT w1.drew.heap.size sv [hd a1, hd a2, hd a3] oneR w5 := (ShT.ofLst hL3 hB4 ov (by omega)).congr fun j hj => rfl
  have hB15 := hB1.trans ((hB2.trans ((hB3.trans (hB4.mono z3)).mono z2)).mono z1)
  have hS0 := hS0.frame (F' := fun w' => RowKit.Below w1.drew.heap.size w1.drew w') hB15
  have hL0 : ∀ j, j < 3 → hln [hd a1, hd a2, hd a3] j = (oneR j).length := fun j hj => hln_row (fun j hj => hS0.sl hj) hj
  clear hL1 hL2 hL3 hB1 hB2 hB3 hB4 oa1 oa2 oa3 ov hc1 hc2 hc3
  simp (maxSteps := 1000000) (disch := omega) only [WS, ↓reduceIte, Nat.reduceEqDiff, reduceCtorEq, AS]
  refine X_call0 ((mend_Shards_R w5 0 1 2 sv [hd a1, hd a2, hd a3] oneR (frmB w1.drew) hS0 hB15.size (fun j hj b hb hne => by obtain ⟨c, hc, hc1, -⟩ := (hS0.row j hj hne).blk; rw [hc] at hb; cases hb; exact hc1) (fun b hb => (hS0.top.blk b hb).1) (fun _ _ => rfl) (hln_le fun j hj => by rw [hL0 j hj, oneL j hj]; decide)).mono ?_)
  rintro vv w6 ⟨z6, e, RW, WL, sx, hs1, rfl, hR, lhs1, hS1, -, ox⟩
  have hR : ShR 0 1 2 (hln [hd a1, hd a2, hd a3]) 3 oneR e RW WL := hR
  obtain ⟨rfl, rfl, rfl⟩ := (one_sh hL0).uniq hR
  have E := hS1.frm
  have B := B.trans (E.mono B.size)
  have hr := fun j hj => (hr j hj).up E
  have h := h.up E
  have hrb := hrb.up E
  have hlo := hlo.up E
  have hht := hht.up E
  clear hR hS0 hB15 z1 z2 z3 z4 z6 E
  simp (maxSteps := 1000000) (disch := omega) only [WS, ↓reduceIte, Nat.reduceEqDiff, reduceCtorEq, AS, show decide ((0 : Int) ≠ 0) = false from rfl]
  refine X_bsl (zs := ([0, 2] : List Int)) (by rfl) (by rfl) fun s02 w7 o02 hB => ?_
  have hS1 := hS1.up (frmB w1.drew) hB
  have hr := fun j hj => (hr j hj).up hB
  have h := h.up hB
  have hrb := hrb.up hB
  have hlo := hlo.up hB
  have hht := hht.up hB
  have ox := ox.up hB
  have B := B.trans (hB.mono B.size)
  clear hB
  simp (maxSteps := 1000000) (disch := omega) only [WS, ↓reduceIte, Nat.reduceEqDiff, reduceCtorEq, AS]
  refine X_call0 ((cullettop_ints_spec w7 sx s02 [0, 2] [0, 2] ox.sl o02.sl (by simp) (by simp)).mono ?_)
  rintro _ w8 ⟨rfl, hk⟩
  have hB := hk.1
  have hS1 := hS1.up (frmB w1.drew) hB
  have hr := fun j hj => (hr j hj).up hB
  have h := h.up hB
  have hrb := hrb.up hB
  have hlo := hlo.up hB
  have hht := hht.up hB
  have B := B.trans (hB.mono B.size)
  clear hB
  clear hk ox o02
  simp (maxSteps := 1000000) (disch := omega) only [WS, ↓reduceIte, Nat.reduceEqDiff, reduceCtorEq, AS, decide_eq_true (show ([0, 2] : List Int) = [0, 2] from rfl)]
  refine X_bsl (zs := ([⟨5⟩, ⟨2⟩] : List (El 8))) (by rfl) (by rfl) fun b1 w9 ob1 hB1 => ?_
  simp (maxSteps := 1000000) (disch := omega) only [WS, ↓reduceIte, Nat.reduceEqDiff, reduceCtorEq, AS]
  refine X_bsl (zs := ([⟨5⟩, ⟨2⟩] : List (El 8))) (by rfl) (by rfl) fun b2 w10 ob2 hB2 => ?_
  simp (maxSteps := 1000000) (disch := omega) only [WS, ↓reduceIte, Nat.reduceEqDiff, reduceCtorEq, AS]
  refine X_bsl (zs := ([⟨5⟩, ⟨2⟩] : List (El 8))) (by rfl) (by rfl) fun b3 w11 ob3 hB3 => ?_
  simp (maxSteps := 1000000) (disch := omega) only [WS, ↓reduceIte, Nat.reduceEqDiff, reduceCtorEq, AS]
  have hc1 : Cell.v (hd b1) = b1 := ob1.sl.hd.1
  have hc2 : Cell.v (hd b2) = b2 := ob2.sl.hd.1
  have hc3 : Cell.v (hd b3) = b3 := ob3.sl.hd.1
  rw [← hc1, ← hc2, ← hc3]
  refine X_bsl (zs := [hd b1, hd b2, hd b3]) (by rfl) (by rfl) fun sb w12 osb hB4 => ?_
  have hr3 : ∀ j (hj : j < [hd b1, hd b2, hd b3].length), Sl w12 (Cell.v [hd b1, hd b2, hd b3][j]) ([⟨5⟩, ⟨2⟩] : List (El 8)) := fun j hj => by
    have q1 : Sl w12 (Cell.v (hd b1)) ([⟨5⟩, ⟨2⟩] : List (El 8)) := by rw [hc1]; exact (((ob1.up hB2).up hB3).up hB4).sl
    have q2 : Sl w12 (Cell.v (hd b2)) ([⟨5⟩, ⟨2⟩] : List (El 8)) := by rw [hc2]; exact ((ob2.up hB3).up hB4).sl
    have q3 : Sl w12 (Cell.v (hd b3)) ([⟨5⟩, ⟨2⟩] : List (El 8)) := by rw [hc3]; exact (ob3.up hB4).sl
    match j, hj with
    | 0, _ => exact q1
    | 1, _ => exact q2
    | 2, _ => exact q3
    | j + 3, hj => exact absurd hj (by show ¬ j + 3 < 3; omega)
  have hB := hB1.trans ((hB2.trans ((hB3.trans (hB4.mono hB3.size)).mono hB2.size)).mono hB1.size)
  have hS1 := hS1.up (frmB w1.drew) hB
  have hr := fun j hj => (hr j hj).up hB
  have h := h.up hB
  have hrb := hrb.up hB
  have hlo := hlo.up hB
  have hht := hht.up hB
  have B := B.trans (hB.mono B.size)
  clear hB
  clear hB1 hB2 hB3 hB4 ob1 ob2 ob3 hc1 hc2 hc3
  simp (maxSteps := 1000000) (disch := omega) only [WS, ↓reduceIte, Nat.reduceEqDiff, reduceCtorEq, AS]
  have lhs3 : hs1.length = 3 := lhs1
  refine X_call0 ((cullettop_same_spec w12 sv sb hs1 [hd b1, hd b2, hd b3] (fun _ => [⟨5⟩, ⟨2⟩]) (fun _ => [⟨5⟩, ⟨2⟩]) hS1.top.sl osb.sl (fun j hj => hS1.sl hj) hr3 (by omega) (by simp)).mono ?_)
  rintro _ w13 ⟨hk, bb, rfl, hbb⟩
  have hB := hk.1
  have hr := fun j hj => (hr j hj).up hB
  have h := h.up hB
  have hrb := hrb.up hB
  have hlo := hlo.up hB
  have hht := hht.up hB
  have B := B.trans (hB.mono B.size)
  clear hB
  clear hk hS1 osb hr3 hrb
  have hbt := hbb.2 ⟨lhs3, fun j hj => rfl⟩
  subst hbt
  clear hbb
  by_cases hf2 : f = 2
  · simp (maxSteps := 1000000) (disch := omega) only [WS, ↓reduceIte, Nat.reduceEqDiff, reduceCtorEq, AS, h.Xlen, decide_eq_true hf2]
    exact B
  simp (maxSteps := 1000000) (disch := omega) only [WS, ↓reduceIte, Nat.reduceEqDiff, reduceCtorEq, AS, h.Xlen, decide_eq_false hf2]
  refine X_call0 ((cullettop_valid_spec w13 f (hsd.length : Int) m hf2 (by omega)).mono ?_)
  rintro _ w14 ⟨rfl, rfl⟩
  by_cases hv : (f = 0 ∨ f = 1) ∧ 1 ≤ (hsd.length : Int) ∧ 1 ≤ m ∧ (hsd.length : Int) ≤ 256 ∧ m ≤ 256 ∧ (hsd.length : Int) + m ≤ 256
  rotate_left
  · simp (maxSteps := 1000000) (disch := omega) only [WS, ↓reduceIte, Nat.reduceEqDiff, reduceCtorEq, AS, decide_eq_false hv]
    exact B
  simp (maxSteps := 1000000) (disch := omega) only [WS, ↓reduceIte, Nat.reduceEqDiff, reduceCtorEq, AS, decide_eq_true hv]
  obtain ⟨hf, hk1, hm1, hk2, hm2, hkm⟩ := hv
  refine X_call0 ((cullettop_right_spec w14 f (hsd.length : Int) sd hsd h (by omega) (hln_le fun j hj => by rw [hlr j hj]; have := hb j hj; omega)).mono ?_)
  rintro _ w15 ⟨hk, bb, rfl, hbb⟩
  have hB := hk.1
  have hr := fun j hj => (hr j hj).up hB
  have h := h.up hB
  have hlo := hlo.up hB
  have hht := hht.up hB
  have B := B.trans (hB.mono B.size)
  clear hB
  clear hk
  cases bb
  · simp (maxSteps := 1000000) (disch := omega) only [WS, ↓reduceIte, Nat.reduceEqDiff, reduceCtorEq, AS]
    exact B
  obtain ⟨-, -, hl1, -, hleq⟩ := hbb.1 rfl
  clear hbb
  obtain ⟨K, hK⟩ : ∃ K, K = hsd.length := ⟨_, rfl⟩
  obtain ⟨M, rfl⟩ : ∃ M : Nat, m = (M : Int) := ⟨m.toNat, by omega⟩
  obtain ⟨len, hlen⟩ : ∃ len, len = hln hsd 0 := ⟨_, rfl⟩
  have hDl : ∀ j, j < K → (D j).length = len := fun j hj => by rw [← hlr j (by omega), hleq j (by omega), hlen]
  rw [← hlen] at hl1
  have hlb0 : len ≤ 140737488351232 := by rw [← hDl 0 (by omega)]; exact hb 0 (by omega)
  rw [← hK] at hk1 hk2 hkm
  have i0 : 0 < hsd.length := by omega
  have r0 := hr 0 i0
  have l0 := hDl 0 (by omega)
  obtain ⟨n, hnK⟩ : ∃ n, n = K + M := ⟨_, rfl⟩
  have eKM : IntKind.i64.wrap ((K : Int) + (M : Int)) = ((n : Nat) : Int) := by rw [wrap_id (by omega) (by omega)]; omega
  have hn256 : n ≤ 256 := by omega
  have e1 : IntKind.i64.wrap ((len : Int) * (n : Int)) = ((len * n : Nat) : Int) := by
    have : len * n ≤ 140737488351232 * 256 := Nat.mul_le_mul hlb0 hn256
    rw [← Int.natCast_mul, wrap_id (by omega) (by omega)]
  have e2 : IntKind.i64.wrap (((len * n : Nat) : Int) * (n : Int)) = ((len * n * n : Nat) : Int) := by
    have h1 : len * n ≤ 140737488351232 * 256 := Nat.mul_le_mul hlb0 hn256
    have : len * n * n ≤ 140737488351232 * 256 * 256 := Nat.mul_le_mul h1 hn256
    rw [← Int.natCast_mul, wrap_id (by omega) (by omega)]
  rw [← hK]
  by_cases hbig : ((len * n * n : Nat) : Int) > 1048576
  · simp (maxSteps := 1000000) (disch := omega) only [WS, ↓reduceIte, Nat.reduceEqDiff, reduceCtorEq, AS, h.Xix0 i0, h.Xld i0, r0.Xlen, l0, eKM, e1, e2, decide_eq_true hbig]
    exact B
  have hlen2 : len ≤ 1048576 := by
    have h1 : len * 1 ≤ len * n := Nat.mul_le_mul (Nat.le_refl _) (by omega)
    have h2 : len * n * 1 ≤ len * n * n := Nat.mul_le_mul (Nat.le_refl _) (by omega)
    omega
  simp (maxSteps := 1000000) (disch := omega) only [WS, ↓reduceIte, Nat.reduceEqDiff, reduceCtorEq, AS, h.Xix0 i0, h.Xld i0, r0.Xlen, l0, eKM, e1, e2, decide_eq_false hbig]
  clear e1 e2 hbig r0
  refine X_call0 ((cullettop_word_spec w15 f K M len sd hsd D h hr hK.symm hDl hf (by omega) (by omega) (by omega)).mono ?_)
  rintro sW w16 ⟨hB15, hsW, lW, hW⟩
  have hB := hB15
  have h := h.up hB
  have hlo := hlo.up hB
  have hht := hht.up hB
  have B := B.trans (hB.mono B.size)
  clear hB
  obtain ⟨G, hG⟩ := Classical.axiomOfChoice fun t => val_ex (K := K) hf (by omega) fun l => nth (D l) t
  have hW : ShT w15.heap.size sW hsW (rowS f K G len) w16 := hW.congr fun j hj => by
    by_cases hjK : j < K
    · rw [if_pos hjK]
      refine ((rowS_eq (hDl j hjK)).2 fun t ht => ?_).symm
      exact ((hG t).2.2 j hjK).symm
    · rw [if_neg hjK]
      refine ((rowS_eq (parL_len f K len (j - K) D)).2 fun t ht => ?_).symm
      have h9 : t < (parL f K len (j - K) D).length := by rw [parL_len]; exact ht
      rw [nth_get h9, parL_get h9, parF_val hf (by omega) (hG t).2.1 fun l hl => ((hG t).2.2 l hl).symm]
      congr 1
      omega
  rw [← hnK] at lW
  simp (maxSteps := 1000000) (disch := omega) only [WS, ↓reduceIte, Nat.reduceEqDiff, reduceCtorEq, AS]
  refine X_call0 ((cullettop_twin_spec w16 sW hsW (rowS f K G len) hW.top.sl (fun j hj => hW.sl hj) (by omega) (fun j hj => by rw [rowS_len]; omega)).mono ?_)
  rintro sl w17 ⟨hB17, hsL, lhL, hS⟩
  have hS := hS.frame (F' := fun w' => RowKit.Below w16.heap.size w16 w') hB17
  have hlo17 := hlo.up hB17
  have hrn : ∀ j, rowS f K G len j ≠ [] := fun j => ne_of_len (rowS_len f K G len j) (by omega)
  have unn := wrap_u64 n (by omega)
  have hn0 : (((n : Nat) : Int) ≠ 0) = True := eq_true (by omega)
  simp (maxSteps := 1000000) (disch := omega) only [WS, ↓reduceIte, Nat.reduceEqDiff, reduceCtorEq, AS, hlo17.Xlen]
  refine loop_of (fun t w' => t 3 = .int .i64 f ∧ t 4 = .int .i64 (M : Int) ∧ t 5 = sd ∧ t 7 = hi ∧ t 11 = .int .i64 (K : Int) ∧ t 12 = sW ∧ t 13 = sl ∧ t 102 = lo ∧ t 103 = .int .i64 (Lo.length : Int) ∧ ∃ (i sp : Nat) (hs' : List Hd) (R0 : Nat → List (El 8)), t 104 = .int .i64 (i : Int) ∧ i ≤ Lo.length ∧ t 14 = .int .i64 (sp : Int) ∧ sp + zc R0 n = M ∧ hs'.length = n ∧ (∀ j, j < n → R0 j = [] ∨ R0 j = rowS f K G len j) ∧ ShM w16.heap.size (fun w' => RowKit.Below w16.heap.size w16 w') (fun _ => []) sl hs' R0 w') (fun t _ => Lo.length - (toI (t 104)).toNat)
    ⟨by simp only [WS, ↓reduceIte, Nat.reduceEqDiff, reduceCtorEq], by simp only [WS, ↓reduceIte, Nat.reduceEqDiff, reduceCtorEq], by simp only [WS, ↓reduceIte, Nat.reduceEqDiff, reduceCtorEq], by simp only [WS, ↓reduceIte, Nat.reduceEqDiff, reduceCtorEq], by simp only [WS, ↓reduceIte, Nat.reduceEqDiff, reduceCtorEq], by simp only [WS, ↓reduceIte, Nat.reduceEqDiff, reduceCtorEq], by simp only [WS, ↓reduceIte, Nat.reduceEqDiff, reduceCtorEq], by simp only [WS, ↓reduceIte, Nat.reduceEqDiff, reduceCtorEq], by simp only [WS, ↓reduceIte, Nat.reduceEqDiff, reduceCtorEq], 0, M, hsL, _, by simp only [WS, ↓reduceIte, Nat.reduceEqDiff, reduceCtorEq]; rfl, by omega, by simp only [WS, ↓reduceIte, Nat.reduceEqDiff, reduceCtorEq], by rw [zc_zero n fun j hj => hrn j]; rfl, by omega, fun j hj => Or.inr rfl, hS⟩ ?_
  clear hS hlo17
  rintro t w18 ⟨t3, t4, t5, t7, t11, t12, t13, t102, t103, i, sp, hs2, R0, t104, hi2, t14, hsp, lh2, hR0, hS⟩
  have E := hS.frm
  have hlo18 := hlo.up E
  by_cases hil : i < Lo.length
  · obtain ⟨q, hq'⟩ := u64n Lo[i]
    have hqn : q % n < n := Nat.mod_lt _ (by omega)
    obtain ⟨P, hP⟩ : ∃ P, P = q % n := ⟨_, rfl⟩
    have em : ((q : Nat) : Int).tmod ((n : Nat) : Int) = (P : Int) := by rw [hP]; exact tmod_nat q n
    have eP : IntKind.i64.wrap (P : Int) = (P : Int) := wrap_id (by omega) (by omega)
    have iP : P < hs2.length := by omega
    have hsl := hS.top.sl
    have hlnP := hS.ln iP
    by_cases hs0 : sp = 0
    · have d0 : ¬ ((sp : Nat) : Int) > 0 := by omega
      simp (maxSteps := 1000000) (disch := omega) only [WS, ↓reduceIte, Nat.reduceEqDiff, reduceCtorEq, AS, t3, t4, t5, t7, t11, t12, t13, t102, t103, t104, t14, hlo18.Xix hil, hlo18.Xld hil, cell_int, hq', eKM, unn, X_rem, hn0, em, eP, decide_eq_false d0]
      exact ⟨⟨i + 1, sp, hs2, R0, rfl, by omega, rfl, hsp, lh2, hR0, hS⟩, by omega⟩
    have d0 : ((sp : Nat) : Int) > 0 := by omega
    by_cases hRP : R0 P = []
    · have e0 : hs2[P].n = 0 := by rw [hlnP, hRP]; rfl
      simp (maxSteps := 1000000) (disch := omega) only [WS, ↓reduceIte, Nat.reduceEqDiff, reduceCtorEq, AS, t3, t4, t5, t7, t11, t12, t13, t102, t103, t104, t14, hlo18.Xix hil, hlo18.Xld hil, cell_int, hq', eKM, unn, X_rem, hn0, em, eP, decide_eq_true d0, hsl.Xix iP, hsl.Xld iP, cell_hd, X_lenS, e0, show decide (((0 : Nat) : Int) > 0) = false from rfl]
      exact ⟨⟨i + 1, sp, hs2, R0, rfl, by omega, rfl, hsp, lh2, hR0, hS⟩, by omega⟩
    have e0 : hs2[P].n = len := by rw [hlnP, (hR0 P (by omega)).resolve_left hRP, rowS_len]
    have d1 : ((len : Nat) : Int) > 0 := by omega
    simp (maxSteps := 1000000) (disch := omega) only [WS, ↓reduceIte, Nat.reduceEqDiff, reduceCtorEq, AS, t3, t4, t5, t7, t11, t12, t13, t102, t103, t104, t14, hlo18.Xix hil, hlo18.Xld hil, cell_int, hq', eKM, unn, X_rem, hn0, em, eP, decide_eq_true d0, hsl.Xix iP, hsl.Xld iP, cell_hd, X_lenS, e0, decide_eq_true d1]
    refine ShM.Xcut (frmB w16) hS iP (fun b hb => (hS.top.blk b hb).1) hdn rfl fun w19 c hS7 hg hc => ?_
    have e5 : IntKind.i64.wrap ((sp : Int) - 1) = ((sp - 1 : Nat) : Int) := by rw [wrap_id (by omega) (by omega)]; omega
    simp (maxSteps := 1000000) (disch := omega) only [WS, ↓reduceIte, Nat.reduceEqDiff, reduceCtorEq, AS, t3, t4, t5, t7, t11, t12, t13, t102, t103, t104, t14, e5]
    refine ⟨⟨i + 1, sp - 1, _, _, rfl, by omega, rfl, ?_, by rw [List.length_set]; exact lh2, fun j hj => ?_, hS7⟩, by omega⟩
    · rw [zc_cut hRP n (by omega)]; omega
    · by_cases ej : j = P
      · simp only [if_pos ej]; exact Or.inl trivial
      · simp only [if_neg ej]; exact hR0 j hj
  have hht18 := hht.up E
  simp (maxSteps := 1000000) (disch := omega) only [WS, ↓reduceIte, Nat.reduceEqDiff, reduceCtorEq, AS, t3, t4, t5, t7, t11, t12, t13, t102, t103, t104, t14, hht18.Xlen]
  refine loop_of (fun t w' => t 3 = .int .i64 f ∧ t 4 = .int .i64 (M : Int) ∧ t 5 = sd ∧ t 11 = .int .i64 (K : Int) ∧ t 12 = sW ∧ t 13 = sl ∧ t 14 = .int .i64 (sp : Int) ∧ t 132 = hi ∧ t 133 = .int .i64 (HT.length : Int) ∧ ∃ (i : Nat) (Rs : Nat → List (El 8)), t 134 = .int .i64 (i : Int) ∧ i ≤ HT.length ∧ (∀ j, j < n → (Rs j).length = (R0 j).length) ∧ ShM w16.heap.size (fun w' => RowKit.Below w16.heap.size w16 w') (fun _ => []) sl hs2 Rs w') (fun t _ => HT.length - (toI (t 134)).toNat)
    ⟨by simp only [WS, ↓reduceIte, Nat.reduceEqDiff, reduceCtorEq]; exact t3, by simp only [WS, ↓reduceIte, Nat.reduceEqDiff, reduceCtorEq]; exact t4, by simp only [WS, ↓reduceIte, Nat.reduceEqDiff, reduceCtorEq]; exact t5, by simp only [WS, ↓reduceIte, Nat.reduceEqDiff, reduceCtorEq]; exact t11, by simp only [WS, ↓reduceIte, Nat.reduceEqDiff, reduceCtorEq]; exact t12, by simp only [WS, ↓reduceIte, Nat.reduceEqDiff, reduceCtorEq]; exact t13, by simp only [WS, ↓reduceIte, Nat.reduceEqDiff, reduceCtorEq]; exact t14, by simp only [WS, ↓reduceIte, Nat.reduceEqDiff, reduceCtorEq], by simp only [WS, ↓reduceIte, Nat.reduceEqDiff, reduceCtorEq], 0, R0, by simp only [WS, ↓reduceIte, Nat.reduceEqDiff, reduceCtorEq]; rfl, by omega, fun _ _ => rfl, hS⟩ ?_
  clear t3 t4 t5 t7 t11 t12 t13 t102 t103 t104 t14 hS E hlo18 hht18 hil hi2
  rintro t w19 ⟨t3, t4, t5, t11, t12, t13, t14, t132, t133, i, Rs, t134, hi2, hRs, hS⟩
  have E := hS.frm
  have hht19 := hht.up E
  have hRl : ∀ j, j < n → (Rs j).length = 0 ∨ (Rs j).length = len := fun j hj => by
    rw [hRs j hj]
    rcases hR0 j hj with e1 | e1
    · rw [e1]; exact Or.inl rfl
    · rw [e1, rowS_len]; exact Or.inr rfl
  by_cases hil : i < HT.length
  · obtain ⟨sh, cc, mx, hvs⟩ := hq _ (List.getElem_mem hil)
    simp (maxSteps := 1000000) (disch := omega) only [WS, ↓reduceIte, Nat.reduceEqDiff, reduceCtorEq, AS, t3, t4, t5, t11, t12, t13, t14, t132, t133, t134, hht19.Xix hil, hht19.Xldn hil]
    rw [hvs]
    refine X_alloc fun b10 w20 r10 hb10 hB8 => ?_
    simp (maxSteps := 1000000) (disch := omega) only [WS, ↓reduceIte, Nat.reduceEqDiff, reduceCtorEq, AS, t3, t4, t5, t11, t12, t13, t14, t132, t133, t134]
    refine Row.Xstn (vs := [.int .i64 sh, .int .i64 cc, .int .u8 (mx.v.toNat : Int)]) r10 rfl (by simp [scal]) (by simp) fun w21 r10 hg => ?_
    have hB9 := Below.row hB8 hb10 hg
    have hS9 := hS.up (frmB w16) hB9
    clear hg hB8
    have r10 : Row w21 b10 [.int .i64 sh, .int .i64 cc, .int .u8 (mx.v.toNat : Int)] := r10
    obtain ⟨q, hq'⟩ := u64n sh
    have hqn : q % n < n := Nat.mod_lt _ (by omega)
    obtain ⟨P, hP⟩ : ∃ P, P = q % n := ⟨_, rfl⟩
    have em : ((q : Nat) : Int).tmod ((n : Nat) : Int) = (P : Int) := by rw [hP]; exact tmod_nat q n
    have eP : IntKind.i64.wrap (P : Int) = (P : Int) := wrap_id (by omega) (by omega)
    have iP : P < hs2.length := by omega
    have hsl := hS9.top.sl
    have hlnP := hS9.ln iP
    by_cases hRP : Rs P = []
    · have e0 : hs2[P].n = 0 := by rw [hlnP, hRP]; rfl
      simp (maxSteps := 1000000) (disch := omega) only [WS, ↓reduceIte, Nat.reduceEqDiff, reduceCtorEq, AS, t3, t4, t5, t11, t12, t13, t14, t132, t133, t134, r10.Xld (show 0 < _ by simp), hq', eKM, unn, X_rem, hn0, em, eP, hsl.Xix iP, hsl.Xld iP, cell_hd, X_lenS, e0, show decide (((0 : Nat) : Int) > 0) = false from rfl]
      exact ⟨⟨i + 1, Rs, rfl, by omega, hRs, hS9⟩, by omega⟩
    have hlP : (Rs P).length = len := (hRl P (by omega)).resolve_left fun e => hRP (List.length_eq_zero_iff.1 e)
    have e0 : hs2[P].n = len := by rw [hlnP, hlP]
    have d1 : ((len : Nat) : Int) > 0 := by omega
    simp (maxSteps := 1000000) (disch := omega) only [WS, ↓reduceIte, Nat.reduceEqDiff, reduceCtorEq, AS, t3, t4, t5, t11, t12, t13, t14, t132, t133, t134, r10.Xld (show 0 < _ by simp), hq', eKM, unn, X_rem, hn0, em, eP, hsl.Xix iP, hsl.Xld iP, cell_hd, X_lenS, e0, decide_eq_true d1]
    refine WP_dops ?_
    have bd := bel_drew w21
    have hS9 := hS9.up (frmB w16) bd
    have r10 := r10.up bd
    clear bd hsl
    have hsl := hS9.top.sl
    have sS := hS9.sl iP
    obtain ⟨q2, hq2⟩ := u64n cc
    have hqn2 : q2 % len < len := Nat.mod_lt _ (by omega)
    obtain ⟨C, hC⟩ : ∃ C, C = q2 % len := ⟨_, rfl⟩
    have em2 : ((q2 : Nat) : Int).tmod ((len : Nat) : Int) = (C : Int) := by rw [hC]; exact tmod_nat q2 len
    have eC : IntKind.i64.wrap (C : Int) = (C : Int) := wrap_id (by omega) (by omega)
    have ul := wrap_u64 len (by omega)
    have hl0 : (((len : Nat) : Int) ≠ 0) = True := eq_true (by omega)
    have iC : C < (Rs P).length := by omega
    simp (maxSteps := 1000000) (disch := omega) only [ES, List.mem_cons, List.not_mem_nil, implies_true, forall_const, WS, ↓reduceIte, Nat.reduceEqDiff, reduceCtorEq, AS, t3, t4, t5, t11, t12, t13, t14, t132, t133, t134, r10.Eld (show 0 < _ by simp), r10.Eld (show 1 < _ by simp), r10.Eld (show 2 < _ by simp), hsl.Eix iP, hsl.Eld iP, sS.Elen, hlP, hq2, ul, E_rem, hl0, em2, eC, sS.Eix iC, sS.Eld iC, cell_e8, xor8]
    refine hS9.Est (frmB w16) iP iC (fun b hb => frmB_D hS9 P iP b hRP hb) ((Rs P)[C] + mx) fun w22 c hS10 hg hc => ?_
    simp (maxSteps := 1000000) (disch := omega) only [ES, List.mem_cons, List.not_mem_nil, implies_true, forall_const, WS, ↓reduceIte, Nat.reduceEqDiff, reduceCtorEq, AS, t3, t4, t5, t11, t12, t13, t14, t132, t133, t134]
    refine ⟨⟨i + 1, _, rfl, by omega, fun j hj => ?_, hS10⟩, by omega⟩
    by_cases ej : j = P
    · simp only [if_pos ej]; rw [List.length_set, ej]; exact hRs P (by omega)
    · simp only [if_neg ej]; exact hRs j hj
  have hzR : zc Rs n = zc R0 n := zc_congr n hRs
  have hLn : ∀ j, j < n → hln hs2 j = (Rs j).length := fun j hj => hln_row (fun j hj => hS.sl hj) (by omega)
  have hzL : (zis (hln hs2) n).length = zc R0 n := by rw [zis_zc hLn, hzR]
  have hnp := prsL_len (hln hs2) n
  have esp : IntKind.i64.wrap (((sp / 2 : Nat) : Nat) : Int) = ((sp / 2 : Nat) : Int) := wrap_id (by omega) (by omega)
  have etd : ((sp : Nat) : Int).tdiv 2 = ((sp / 2 : Nat) : Int) := (Int.ofNat_tdiv sp 2).symm
  have hn2 : ((2 : Int) ≠ 0) = True := eq_true (by decide)
  have hsp2 : sp = (prsL (hln hs2) n).length - K := by omega
  have hW19 := hW.up E
  clear hR0 hRs
  simp (maxSteps := 1000000) (disch := omega) only [WS, ↓reduceIte, Nat.reduceEqDiff, reduceCtorEq, AS, t3, t4, t5, t11, t12, t13, t14, t132, t133, t134, X_quo, hn2, etd, esp]
  refine X_call0 ((cullettop_apart_spec w19 sl sW hs2 hsW Rs (rowS f K G len) len (sp / 2) hS.top.sl hW19.top.sl (fun j hj => hS.sl hj) (fun j hj => hW19.sl hj) (by omega) (by omega) (by omega) (fun j hj => hRl j (by omega)) (fun j hj => rowS_len ..) hlen2 (by omega)).mono ?_)
  rintro vv w23 ⟨hB23, near, sw, rfl, hnear, osw⟩
  have hS23 := hS.up (frmB w16) hB23
  simp (maxSteps := 1000000) (disch := omega) only [WS, ↓reduceIte, Nat.reduceEqDiff, reduceCtorEq, AS, t3, t4, t5, t11, t12, t13, t14]
  refine X_call0 ((cullettop_twin_spec w23 sl hs2 Rs hS23.top.sl (fun j hj => hS23.sl hj) (by omega) (fun j hj => by rcases hRl j (by omega) with h | h <;> omega)).mono ?_)
  rintro sb w24 ⟨hB24, hsB, lhB, hT⟩
  have hS24 := hS23.up (frmB w16) hB24
  have osw := osw.up hB24
  have z16 := E.size
  have z23 := hB23.size
  have z24 := hB24.size
  have hlb2 : ∀ j, hln hs2 j ≤ 1099511627776 := hln_le fun j hj => by rw [hLn j (by omega)]; rcases hRl j (by omega) with h | h <;> omega
  -- from here on what is known of the memory: the marred shards' own; all else stays
  have hF : Frm (fun w' => RowKit.Below w16.heap.size w16 w' ∧ ShT w23.heap.size sb hsB Rs w' ∧ Ow w19.heap.size w' sw (wrg Rs (rowS f K G len) hs2.length)) (fun b => w16.heap.size ≤ b ∧ b < w19.heap.size) :=
    ⟨fun x y c hx hc hg => ⟨hx.1.grown hg hx.1.size fun d hd => by cases hd; exact hc.1, ShM.grO frm0 hx.2.1 hg trivial (fun e => by have := (hx.2.1.top.blk _ e).1; omega) (fun j hj hn e => by obtain ⟨d, hd, hd1, -⟩ := (hx.2.1.row j hj hn).blk; rw [hd] at e; cases e; omega), hx.2.2.gr' hg fun d hd e => by cases hd; have := (hx.2.2.blk _ e).1; omega⟩,
     fun x y hx hB => ⟨hx.1.trans (hB.mono hx.1.size), hx.2.1.up hB, hx.2.2.up hB⟩⟩
  have hS24' := hS24.frame (F' := fun w' => RowKit.Below w16.heap.size w16 w' ∧ ShT w23.heap.size sb hsB Rs w' ∧ Ow w19.heap.size w' sw (wrg Rs (rowS f K G len) hs2.length)) ⟨hS24.frm, hT, osw⟩
  simp (maxSteps := 1000000) (disch := omega) only [WS, ↓reduceIte, Nat.reduceEqDiff, reduceCtorEq, AS, t3, t4, t5, t11, t12, t13, t14]
  refine X_call0 ((mend_Shards_R w24 f (K : Int) (M : Int) sl hs2 Rs hF hS24' (by omega) (fun j hj b hb hne => by obtain ⟨c, hc, hc1, hc2⟩ := (hS.row j hj hne).blk; rw [hc] at hb; cases hb; exact ⟨hc1, hc2⟩) (fun b hb => hS.top.blk b hb) (fun _ _ => rfl) hlb2).mono ?_)
  rintro vv w25 ⟨z25, e, RW, WL, sx, hs3, rfl, hR, lhs3, hS25, -, ox⟩
  obtain ⟨E25, hT25, osw25⟩ := hS25.frm
  have hW25 := hW.up E25
  have Bf := B.trans (E25.mono B.size)
  have lWL := hR.wl
  have lwr := wrg_le Rs (rowS f K G len) hs2.length
  rw [lh2] at hR lhs3 hnear osw25 lWL lwr
  have hLens : ∃ ev, Lns (hln hs2) n len ev := by
    obtain ⟨l2, ev, h2⟩ := lns_ex (hln hs2) n
    have := wer_ok hf (by omega) (by omega) (by omega) (by omega) h2 (T := len) (k := (K : Int)) (m := (M : Int)) (by omega) (fun j hj => by rw [hLn j hj]; exact hRl j hj) (by omega)
    rw [this.2] at h2
    exact ⟨ev, h2⟩
  obtain ⟨ev, hLns⟩ := hLens
  obtain ⟨hw0, -⟩ := wer_ok (k := (K : Int)) (m := (M : Int)) hf (by omega) (by omega) (by omega) (by omega) hLns (T := len) (by omega) (fun j hj => by rw [hLn j hj]; exact hRl j hj) (by omega)
  have hMok : MOk f (K : Int) (M : Int) (hln hs2) n len := ⟨hf, by omega, by omega, by omega, by omega, by omega, fun j hj => by rw [hLn j hj]; exact hRl j hj, by omega⟩
  cases near
  rotate_left
  · have hne := hnear.1 rfl
    have hgood : ShR f (K : Int) (M : Int) (hln hs2) n Rs 0 (rowS f K G len) (wrg Rs (rowS f K G len) n) := ⟨len, ev, fun _ => hLns, Or.inr ⟨hw0, hMok, Or.inr ⟨rfl, G, rfl, fun t ht => ⟨(hG t).1, by rw [Int.toNat_natCast]; exact (hG t).2.1, by
      rw [Int.toNat_natCast, cn_offs (len := len) hn256 (by omega) hLn ht]
      have := hne t ht
      omega⟩, by rw [Int.toNat_natCast]; exact (wrg_filter hLn).symm⟩⟩⟩
    obtain ⟨rfl, rfl, rfl⟩ := hgood.uniq hR
    simp (maxSteps := 1000000) (disch := omega) only [WS, ↓reduceIte, Nat.reduceEqDiff, reduceCtorEq, AS, t3, t4, t5, t11, t12, t13, t14, show decide ((0 : Int) = 0) = true from rfl]
    refine X_call0 ((cullettop_same_spec w25 sl sW hs3 hsW (rowS f K G len) (rowS f K G len) hS25.top.sl hW25.top.sl (fun j hj => hS25.sl hj) (fun j hj => hW25.sl hj) (by omega) (by omega)).mono ?_)
    rintro _ w26 ⟨hk, bb, rfl, hbb⟩
    simp (maxSteps := 1000000) (disch := omega) only [WS, ↓reduceIte, Nat.reduceEqDiff, reduceCtorEq, AS, hbb.2 ⟨by omega, fun j hj => rfl⟩]
    refine X_call0 ((cullettop_ints_spec w26 sx sw _ _ (ox.up hk.1).sl (osw25.up hk.1).sl (by omega) (by omega)).mono ?_)
    rintro _ w27 ⟨rfl, hk2⟩
    simp (maxSteps := 1000000) (disch := omega) only [WS, ↓reduceIte, Nat.reduceEqDiff, reduceCtorEq, AS, decide_eq_true rfl]
    exact (Bf.trans (hk.1.mono Bf.size)).trans (hk2.1.mono (Nat.le_trans Bf.size hk.1.size))
  obtain ⟨len', ev', hL', ⟨q1, -⟩ | ⟨q1, hM', ⟨he, hRW, hWL, -⟩ | ⟨he, G', hRW, hG', hWL⟩⟩⟩ := hR
  · exact absurd ((wer_uniq hL' fun _ => hLns).trans hw0) q1
  · subst he
    rw [hRW] at hS25
    simp (maxSteps := 1000000) (disch := omega) only [WS, ↓reduceIte, Nat.reduceEqDiff, reduceCtorEq, AS, t3, t4, t5, t11, t12, t13, t14, show decide ((190 : Int) ≠ 0) = true from rfl, show decide ((190 : Int) = 190) = true from rfl]
    refine X_call0 ((cullettop_same_spec w25 sl sb hs3 hsB Rs Rs hS25.top.sl hT25.top.sl (fun j hj => hS25.sl hj) (fun j hj => hT25.sl hj) (by omega) (by omega)).mono ?_)
    rintro _ w26 ⟨hk, bb, rfl, hbb⟩
    simp (maxSteps := 1000000) (disch := omega) only [WS, ↓reduceIte, Nat.reduceEqDiff, reduceCtorEq, AS]
    exact ⟨hbb.2 ⟨by omega, fun j hj => rfl⟩, Bf.trans (hk.1.mono Bf.size)⟩
  obtain rfl := mok_len hMok hM'
  rw [Int.toNat_natCast] at hRW hG' hWL
  subst he hRW
  rw [wrg_filter hLn] at hWL
  subst hWL
  have lhs3' : ((hs3.length : Nat) : Int) = ((n : Nat) : Int) := by omega
  have h25 := h.up E25
  have hr25 := fun j hj => ((hr j hj).up hB15).up E25
  simp (maxSteps := 1000000) (disch := omega) only [WS, ↓reduceIte, Nat.reduceEqDiff, reduceCtorEq, AS, t3, t4, t5, t11, t12, t13, t14, show decide ((0 : Int) ≠ 0) = false from rfl]
  refine WP_dops ?_
  have bd := bel_drew w25
  have hS26 := hS25.up hF bd
  have h26 := h25.up bd
  have ox := ox.up bd
  have Bf := Bf.trans (bd.mono Bf.size)
  have hsub := hS26.top.sl.sub (lo := 0) (hi := K) (Nat.zero_le _) (by omega)
  obtain ⟨hsK, hhsK⟩ : ∃ hsK, hsK = (hs3.take K).drop 0 := ⟨_, rfl⟩
  rw [← hhsK] at hsub
  have lK : hsK.length = K := by rw [hhsK, List.length_drop, List.length_take]; omega
  have gK : ∀ j (hj : j < hsK.length) (hj3 : j < hs3.length), hsK[j] = hs3[j] := fun j hj hj3 => by simp only [hhsK, List.drop_zero, List.getElem_take]
  have rK : ∀ (F' : World → Prop) w', ShM w16.heap.size F' (fun _ => []) sl hs3 (rowS f K G' len) w' → ∀ j (hj : j < hsK.length), Sl w' (Cell.v hsK[j]) (rowS f K G' len j) := fun F' w' hh j hj => by
    rw [gK j hj (by omega)]
    exact hh.sl (by omega)
  have hlK : ∀ j, j < K → hln hsK j = len := fun j hj => by rw [hln_row (rK _ _ hS26) (by omega), rowS_len]
  have i3 : 0 < hs3.length := by omega
  simp (maxSteps := 1000000) (disch := omega) only [ES, List.mem_cons, List.not_mem_nil, implies_true, forall_const, WS, ↓reduceIte, Nat.reduceEqDiff, reduceCtorEq, AS, t3, t4, t5, t11, t12, t13, t14, hS26.top.sl.Elen, lhs3', eKM, ne_eq, not_true_eq_false, decide_false, hS26.top.sl.EslcHi (k' := .i64) (hi := K) (by omega)]
  refine E_call0 ((cullettop_right_spec w25.drew f (K : Int) (Fw.sub sl 0 K) hsK hsub (by omega) (hln_le fun j hj => by rw [hlK j (by omega)]; omega)).mono ?_)
  rintro _ w26 ⟨hk, bb, rfl, hbb⟩
  have hbt : bb = true := hbb.2 ⟨by omega, by omega, by rw [hlK 0 (by omega)]; omega, fun e => absurd e hf2, fun j hj => by rw [hlK j (by omega), hlK 0 (by omega)]⟩
  subst hbt
  clear hbb
  have hS27 := hS26.up hF hk.1
  have h27 := h26.up hk.1
  have ox := ox.up hk.1
  have hr27 := fun j hj => ((hr25 j hj).up bd).up hk.1
  have Bf := Bf.trans (hk.1.mono Bf.size)
  have hsub27 := hsub.up hk.1
  have s0 := hS27.sl i3
  have r0 := hr27 0 i0
  have l9 := rowS_len f K G' len 0
  clear hk bd hS26 hsub h26
  simp (maxSteps := 1000000) (disch := omega) only [ES, List.mem_cons, List.not_mem_nil, implies_true, forall_const, WS, ↓reduceIte, Nat.reduceEqDiff, reduceCtorEq, AS, t3, t4, t5, t11, t12, t13, t14, hS27.top.sl.Eix0 i3, hS27.top.sl.Eld i3, s0.Elen, l9, h27.Eix0 i0, h27.Eld i0, r0.Elen, l0, ne_eq, not_true_eq_false, decide_false, hS27.top.sl.EslcHi (k' := .i64) (hi := K) (by omega)]
  refine E_call0 ((cullettop_word_spec w26 f K M len (Fw.sub sl 0 K) hsK (rowS f K G' len) hsub27 (rK _ _ hS27) lK (fun j hj => rowS_len ..) hf (by omega) (by omega) (by omega)).mono ?_)
  rintro s9 w27 ⟨hB27, hs9, lh9, hW9⟩
  have hW9 : ShT w26.heap.size s9 hs9 (rowS f K G' len) w27 := hW9.congr fun j hj => by
    by_cases hjK : j < K
    · rw [if_pos hjK]
    · rw [if_neg hjK]
      refine ((rowS_eq (parL_len f K len (j - K) _)).2 fun t ht => ?_).symm
      have h9 : t < (parL f K len (j - K) (rowS f K G' len)).length := by rw [parL_len]; exact ht
      rw [nth_get h9, parL_get h9, parF_val hf (by omega) (hG' t ht).2.1 fun l hl => by
        have h8 : t < (rowS f K G' len l).length := by rw [rowS_len]; exact ht
        rw [nth_get h8, rowS_get h8]]
      congr 1
      omega
  have hS28 := hS27.up hF hB27
  have ox := ox.up hB27
  have Bf := Bf.trans (hB27.mono Bf.size)
  clear hsub27 hS27 h27 s0 r0
  simp (maxSteps := 1000000) (disch := omega) only [ES, List.mem_cons, List.not_mem_nil, implies_true, forall_const, WS, ↓reduceIte, Nat.reduceEqDiff, reduceCtorEq, AS, t3, t4, t5, t11, t12, t13, t14]
  refine E_call0 ((cullettop_same_spec w27 sl s9 hs3 hs9 (rowS f K G' len) (rowS f K G' len) hS28.top.sl hW9.top.sl (fun j hj => hS28.sl hj) (fun j hj => hW9.sl hj) (by omega) (by omega)).mono ?_)
  rintro _ w28 ⟨hk, bb, rfl, hbb⟩
  have hbt : bb = true := hbb.2 ⟨by omega, fun j hj => rfl⟩
  subst hbt
  clear hbb
  have hS29 := hS28.up hF hk.1
  have ox := ox.up hk.1
  have Bf := Bf.trans (hk.1.mono Bf.size)
  clear hS28 hW9 hk
  simp (maxSteps := 1000000) (disch := omega) only [ES, List.mem_cons, List.not_mem_nil, implies_true, forall_const, WS, ↓reduceIte, Nat.reduceEqDiff, reduceCtorEq, AS, t3, t4, t5, t11, t12, t13, t14]
  have hT29 := hS29.frm.2.1
  have hRB : ∀ j, j < hsB.length → (rowS f K G' len j).length = len := fun j hj => rowS_len ..
  simp (maxSteps := 1000000) (disch := omega) only [WS, ↓reduceIte, Nat.reduceEqDiff, reduceCtorEq, AS, t3, t4, t5, t11, t12, t13, t14, X_quo, hn2, etd, esp]
  refine X_call0 ((cullettop_apart_spec w28 sb sl hsB hs3 Rs (rowS f K G' len) len (sp / 2) hT29.top.sl hS29.top.sl (fun j hj => hT29.sl hj) (fun j hj => hS29.sl hj) (by omega) (by omega) (by omega) (fun j hj => hRl j (by omega)) hRB hlen2 (by omega)).mono ?_)
  rintro vv w29 ⟨hB29, near2, sw2, rfl, hnear2, osw2⟩
  rw [show hsB.length = n by omega] at hnear2 osw2
  have hn2t : near2 = true := hnear2.2 fun t ht => by
    have := (hG' t ht).2.2
    rw [cn_offs (len := len) hn256 (by omega) hLn ht] at this
    omega
  subst hn2t
  have lwr2 := wrg_le Rs (rowS f K G' len) n
  simp (maxSteps := 1000000) (disch := omega) only [WS, ↓reduceIte, Nat.reduceEqDiff, reduceCtorEq, AS, t3, t4, t5, t11, t12, t13, t14]
  refine X_call0 ((cullettop_ints_spec w29 sx sw2 _ _ (ox.up hB29).sl osw2.sl (by omega) (by omega)).mono ?_)
  rintro _ w30 ⟨rfl, hk⟩
  simp (maxSteps := 1000000) (disch := omega) only [WS, ↓reduceIte, Nat.reduceEqDiff, reduceCtorEq, AS, decide_eq_true rfl]
  exact (Bf.trans (hB29.mono Bf.size)).trans (hk.1.mono (Nat.le_trans Bf.size hB29.size))
end Go.Proofs.Ytbaljbadlfopgaa.Fw
