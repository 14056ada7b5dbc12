import Derived.Test.YtcdagkcchfibjaaProg
import Derived.Test.YtcdagkcchfibjaaSS04j
set_option linter.all false
set_option linter.unusedVariables false
set_option linter.unusedSimpArgs false
set_option maxRecDepth 100000
namespace Go.Proofs.Ytcdagkcchfibjaa.Fw
open Go Go.Fw Go.Proofs
def c_culletlaw04_PolysLeibniz : C := .seq (.ops [⟨0, (some 1), none, .box 33 (.t 0), []⟩, ⟨1, (some 2), none, .mov (.c (.bool false)), []⟩]) (.seq (.ops [⟨0, (some 12), none, .call (.c (.func (.func 12) #[] #[])) [], []⟩, ⟨1, (some 3), none, .alloc 25 [.pointer none, .pointer none], []⟩, ⟨2, none, none, .stn 2 (.t 3) (.t 12), []⟩]) (.seq (.seq (.ops [⟨0, (some 13), none, .ldn 2 (.t 3), []⟩, ⟨1, (some 14), none, .call (.c (.func (.func 23) #[] #[])) [.t 13], []⟩, ⟨2, (some 15), none, .un .not (.t 14), []⟩, ⟨3, (some 16), none, .mov (.t 15), []⟩, ⟨4, (some 17), (some (16, false)), .ldn 2 (.t 3), []⟩, ⟨5, (some 18), (some (16, false)), .fad 1 (.t 1), []⟩, ⟨6, (some 19), (some (16, false)), .ld (.t 18), []⟩, ⟨7, (some 20), (some (16, false)), .bsl 28 4 [.int .u16 0] [(0, (1, .c (.int .u16 7))), (1, (1, .c (.int .u16 6))), (2, (1, .c (.int .u16 5))), (3, (1, .c (.int .u16 4)))], []⟩, ⟨8, (some 21), (some (16, false)), .call (.c (.func (.func 18) #[] #[])) [.t 17, .t 19, .t 20], []⟩, ⟨9, (some 22), (some (16, false)), .bsl 28 3 [.int .u16 0] [(0, (1, .c (.int .u16 6))), (1, (1, .c (.int .u16 0))), (2, (1, .c (.int .u16 4)))], []⟩, ⟨10, (some 23), (some (16, false)), .call (.c (.func (.func 15) #[] #[])) [.t 21, .t 22], []⟩, ⟨11, (some 24), (some (16, false)), .un .not (.t 23), []⟩, ⟨12, (some 25), none, .pick (.t 16) (.c (.bool true)) (.t 24), []⟩]) (.ite (.t 25) (.seq (.ops [⟨0, (some 2), none, .mov (.c (.bool false)), []⟩]) .ret) .skip)) (.seq (.ops [⟨0, (some 26), none, .fad 1 (.t 1), []⟩, ⟨1, (some 27), none, .ld (.t 26), []⟩, ⟨2, (some 28), none, .fad 2 (.t 1), []⟩, ⟨3, (some 29), none, .ld (.t 28), []⟩, ⟨4, (some 30), none, .call (.c (.func (.func 16) #[] #[])) [.t 27, .t 29], []⟩, ⟨5, (some 4), none, .mov (.t 30), []⟩]) (.seq (.ops [⟨0, (some 31), none, .fad 1 (.t 1), []⟩, ⟨1, (some 32), none, .ld (.t 31), []⟩, ⟨2, (some 33), none, .fad 3 (.t 1), []⟩, ⟨3, (some 34), none, .ld (.t 33), []⟩, ⟨4, (some 35), none, .call (.c (.func (.func 16) #[] #[])) [.t 32, .t 34], []⟩, ⟨5, (some 5), none, .mov (.t 35), []⟩]) (.seq (.seq (.ops [⟨0, (some 36), none, .mov (.t 4), []⟩, ⟨1, (some 37), none, .len (.t 36), []⟩, ⟨2, (some 38), none, .bin .gtr (.t 37) (.c (.int .i64 1024)), []⟩, ⟨3, (some 39), none, .mov (.t 38), []⟩, ⟨4, (some 40), (some (39, false)), .mov (.t 5), []⟩, ⟨5, (some 41), (some (39, false)), .len (.t 40), []⟩, ⟨6, (some 42), (some (39, false)), .bin .gtr (.t 41) (.c (.int .i64 1024)), []⟩, ⟨7, (some 43), none, .pick (.t 39) (.c (.bool true)) (.t 42), []⟩]) (.ite (.t 43) (.seq (.ops [⟨0, (some 2), none, .mov (.c (.bool true)), []⟩]) .ret) .skip)) (.seq (.ops [⟨0, (some 45), none, .ldn 2 (.t 3), []⟩, ⟨1, (some 46), none, .fad 1 (.t 1), []⟩, ⟨2, (some 47), none, .ld (.t 46), []⟩, ⟨3, (some 48), none, .mov (.t 4), []⟩, ⟨4, (some 49), none, .mov (.t 5), []⟩, ⟨5, (some 50), none, .call (.c (.func (.func 13) #[] #[])) [.t 45, .t 47, .t 48, .t 49], []⟩, ⟨6, (some 44), none, .mov (.t 50), []⟩, ⟨7, (some 51), none, .ext (.t 44) 0, []⟩, ⟨8, (some 52), none, .ext (.t 44) 1, []⟩, ⟨9, (some 6), none, .mov (.t 51), []⟩, ⟨10, (some 7), none, .mov (.t 52), []⟩]) (.seq (.dops [⟨0, (some 54), none, .ldn 2 (.t 3), []⟩, ⟨1, (some 55), none, .fad 1 (.t 1), []⟩, ⟨2, (some 56), none, .ld (.t 55), []⟩, ⟨3, (some 57), none, .ldn 2 (.t 3), []⟩, ⟨4, (some 58), none, .fad 1 (.t 1), []⟩, ⟨5, (some 59), none, .ld (.t 58), []⟩, ⟨6, (some 60), none, .mov (.t 4), []⟩, ⟨7, (some 61), none, .call (.c (.func (.func 18) #[] #[])) [.t 57, .t 59, .t 60], [0, 2]⟩, ⟨8, (some 62), none, .mov (.t 5), []⟩, ⟨9, (some 63), none, .call (.c (.func (.func 13) #[] #[])) [.t 54, .t 56, .t 61, .t 62], []⟩, ⟨10, (some 53), none, .mov (.t 63), []⟩, ⟨11, (some 64), none, .ext (.t 53) 0, []⟩, ⟨12, (some 65), none, .ext (.t 53) 1, []⟩, ⟨13, (some 8), none, .mov (.t 64), []⟩, ⟨14, (some 9), none, .mov (.t 65), []⟩]) (.seq (.dops [⟨0, (some 67), none, .ldn 2 (.t 3), []⟩, ⟨1, (some 68), none, .fad 1 (.t 1), []⟩, ⟨2, (some 69), none, .ld (.t 68), []⟩, ⟨3, (some 70), none, .mov (.t 4), []⟩, ⟨4, (some 71), none, .ldn 2 (.t 3), []⟩, ⟨5, (some 72), none, .fad 1 (.t 1), []⟩, ⟨6, (some 73), none, .ld (.t 72), []⟩, ⟨7, (some 74), none, .mov (.t 5), []⟩, ⟨8, (some 75), none, .call (.c (.func (.func 18) #[] #[])) [.t 71, .t 73, .t 74], [0, 2]⟩, ⟨9, (some 76), none, .call (.c (.func (.func 13) #[] #[])) [.t 67, .t 69, .t 70, .t 75], []⟩, ⟨10, (some 66), none, .mov (.t 76), []⟩, ⟨11, (some 77), none, .ext (.t 66) 0, []⟩, ⟨12, (some 78), none, .ext (.t 66) 1, []⟩, ⟨13, (some 10), none, .mov (.t 77), []⟩, ⟨14, (some 11), none, .mov (.t 78), []⟩]) (.seq (.dops [⟨0, (some 79), none, .mov (.t 7), []⟩, ⟨1, (some 80), none, .bin .eql (.t 79) (.c (.int .i64 0)), []⟩, ⟨2, (some 81), none, .mov (.t 80), []⟩, ⟨3, (some 82), (some (81, true)), .mov (.t 9), []⟩, ⟨4, (some 83), (some (81, true)), .bin .eql (.t 82) (.c (.int .i64 0)), []⟩, ⟨5, (some 84), none, .pick (.t 81) (.t 83) (.c (.bool false)), []⟩, ⟨6, (some 85), none, .mov (.t 84), []⟩, ⟨7, (some 86), (some (85, true)), .mov (.t 11), []⟩, ⟨8, (some 87), (some (85, true)), .bin .eql (.t 86) (.c (.int .i64 0)), []⟩, ⟨9, (some 88), none, .pick (.t 85) (.t 87) (.c (.bool false)), []⟩, ⟨10, (some 89), none, .mov (.t 88), []⟩, ⟨11, (some 90), (some (89, true)), .ldn 2 (.t 3), []⟩, ⟨12, (some 91), (some (89, true)), .fad 1 (.t 1), []⟩, ⟨13, (some 92), (some (89, true)), .ld (.t 91), []⟩, ⟨14, (some 93), (some (89, true)), .mov (.t 6), []⟩, ⟨15, (some 94), (some (89, true)), .call (.c (.func (.func 18) #[] #[])) [.t 90, .t 92, .t 93], []⟩, ⟨16, (some 95), (some (89, true)), .ldn 2 (.t 3), [15]⟩, ⟨17, (some 96), (some (89, true)), .fad 1 (.t 1), []⟩, ⟨18, (some 97), (some (89, true)), .ld (.t 96), [15]⟩, ⟨19, (some 98), (some (89, true)), .mov (.t 8), []⟩, ⟨20, (some 99), (some (89, true)), .mov (.t 10), []⟩, ⟨21, (some 100), (some (89, true)), .call (.c (.func (.func 24) #[] #[])) [.t 95, .t 97, .t 98, .t 99], []⟩, ⟨22, (some 101), (some (89, true)), .call (.c (.func (.func 15) #[] #[])) [.t 94, .t 100], []⟩, ⟨23, (some 102), none, .pick (.t 89) (.t 101) (.c (.bool false)), []⟩, ⟨24, (some 2), none, .mov (.t 102), []⟩]) .ret)))))))))
theorem run_culletlaw04_PolysLeibniz {args : List Value} {w : World} {K : Value → World → Prop} (hn : args.length ≤ 103) (h : WP Try.prog c_culletlaw04_PolysLeibniz (endQ [.t 2] K) (initT args) w) : CallV Try.prog 6 args w K :=
  call_of follows Try.func6 (by kernel_rfl) (by kernel_rfl) hn h
end Go.Proofs.Ytcdagkcchfibjaa.Fw
namespace Go.Proofs.Ytcdagkcchfibjaa.Fw
open Go Go.Fw
theorem lb_w (m : List (El 16)) (ht : tr m = m) (hc : co m = (co (([⟨7⟩, ⟨6⟩, ⟨5⟩, ⟨4⟩] : List (El 16)).map lo16)).D) : m.map em16 = [⟨6⟩, ⟨0⟩, ⟨4⟩] := by
  have : m = [⟨6⟩, ⟨0⟩, ⟨4⟩] := tr_inj ht (by decide +kernel) (hc.trans (ps_eq 4 (co_dg _).D ((co_dg _).mono (by decide)) (by decide +kernel)))
  rw [this]; rfl
theorem culletlaw04_PolysLeibniz_w_spec (w : World) (k n : Int) (F G : Value) (LF LG : List (El 16)) (X : El 16) (hF : Sl w F LF) (hG : Sl w G LG) (hlF : LF.length ≤ 70368744175616) (hlG : LG.length ≤ 70368744175616) :
    CallV Try.prog 6 [.agg #[.int .i64 k, .bool true, F, G, .int .u16 (X.v.toNat : Int), .int .i64 n]] w fun v w' => v = .bool true ∧ RowKit.Below w.heap.size w w' := by
  refine run_culletlaw04_PolysLeibniz (by simp) ?_
  simp only [c_culletlaw04_PolysLeibniz, List.getElem_cons_zero, List.getElem_cons_succ, and_true, true_and, decide_true, decide_false, Bool.not_true, Bool.not_false, WP_seq, WP_ops, WP_ite, WP_block, WP_skip, WP_ret, WP_exit, exThen_normal, exThen_exit, exThen_ret, exBlock_normal, exBlock_exit, exBlock_ret, W_nil, W_cons, W_consG, I.at, atL, atO, atP, put_some, put_none, ev_t, ev_c, evp, evs, upd_apply, ↓reduceIte, Nat.reduceEqDiff, reduceCtorEq, Value.bool.injEq, Bool.false_eq_true, Bool.true_eq_false, iteW_true, iteW_false, X_mov, X_pick, X_add, X_sub, X_mul, X_and, X_or, X_xor, X_andNot, X_eql, X_neq, X_lss, X_leq, X_gtr, X_geq, X_eqb, X_eqp, X_not, X_neg, X_cnv, X_ext, X_nil, X_nilF, X_fad, X_fld, X_fldn, X_mnx, X_mkf, X_mki, getK_0, bff, btf, Option.isNone_some, Option.isNone_none, getK_succ, endQ_ret, endQ_normal, retV, resK_0, resK_t, resK_ce, resK_cn, initT_eq, List.getD_cons_zero, List.getD_cons_succ]
  refine X_box fun bo w1 hro hbo hB => ?_
  have hro : Row w1 bo [.int .i64 k, .bool true, F, G, .int .u16 (X.v.toNat : Int), .int .i64 n] := hro
  have hF := hF.up hB
  have hG := hG.up hB
  have B1 : RowKit.Below w.heap.size w w1 := hB
  clear hB
  simp only [List.getElem_cons_zero, List.getElem_cons_succ, and_true, true_and, decide_true, decide_false, Bool.not_true, Bool.not_false, WP_seq, WP_ops, WP_ite, WP_block, WP_skip, WP_ret, WP_exit, exThen_normal, exThen_exit, exThen_ret, exBlock_normal, exBlock_exit, exBlock_ret, W_nil, W_cons, W_consG, I.at, atL, atO, atP, put_some, put_none, ev_t, ev_c, evp, evs, upd_apply, ↓reduceIte, Nat.reduceEqDiff, reduceCtorEq, Value.bool.injEq, Bool.false_eq_true, Bool.true_eq_false, iteW_true, iteW_false, X_mov, X_pick, X_add, X_sub, X_mul, X_and, X_or, X_xor, X_andNot, X_eql, X_neq, X_lss, X_leq, X_gtr, X_geq, X_eqb, X_eqp, X_not, X_neg, X_cnv, X_ext, X_nil, X_nilF, X_fad, X_fld, X_fldn, X_mnx, X_mkf, X_mki, getK_0, bff, btf, Option.isNone_some, Option.isNone_none, getK_succ, endQ_ret, endQ_normal, retV, resK_0, resK_t, resK_ce, resK_cn, initT_eq, List.getD_cons_zero, List.getD_cons_succ]
  refine X_call0 ((culletlaw04_both_spec w1).mono ?_)
  rintro _ w2 ⟨rb, rw, rfl, hb, hw, hB⟩
  have hF := hF.up hB
  have hG := hG.up hB
  have hro := hro.up hB
  have B2 : RowKit.Below w.heap.size w w2 := B1.trans (hB.mono B1.size)
  clear hB B1
  simp only [List.getElem_cons_zero, List.getElem_cons_succ, and_true, true_and, decide_true, decide_false, Bool.not_true, Bool.not_false, WP_seq, WP_ops, WP_ite, WP_block, WP_skip, WP_ret, WP_exit, exThen_normal, exThen_exit, exThen_ret, exBlock_normal, exBlock_exit, exBlock_ret, W_nil, W_cons, W_consG, I.at, atL, atO, atP, put_some, put_none, ev_t, ev_c, evp, evs, upd_apply, ↓reduceIte, Nat.reduceEqDiff, reduceCtorEq, Value.bool.injEq, Bool.false_eq_true, Bool.true_eq_false, iteW_true, iteW_false, X_mov, X_pick, X_add, X_sub, X_mul, X_and, X_or, X_xor, X_andNot, X_eql, X_neq, X_lss, X_leq, X_gtr, X_geq, X_eqb, X_eqp, X_not, X_neg, X_cnv, X_ext, X_nil, X_nilF, X_fad, X_fld, X_fldn, X_mnx, X_mkf, X_mki, getK_0, bff, btf, Option.isNone_some, Option.isNone_none, getK_succ, endQ_ret, endQ_normal, retV, resK_0, resK_t, resK_ce, resK_cn, initT_eq, List.getD_cons_zero, List.getD_cons_succ]
  refine X_alloc fun b3 w0 hr3 hb3 hB => ?_
  have s8 : scal rb = true := by obtain ⟨_, _, _, rfl, _⟩ := hb; rfl
  have s16 : scal rw = true := by obtain ⟨_, _, _, rfl, _⟩ := hw; rfl
  simp only [List.getElem_cons_zero, List.getElem_cons_succ, and_true, true_and, decide_true, decide_false, Bool.not_true, Bool.not_false, WP_seq, WP_ops, WP_ite, WP_block, WP_skip, WP_ret, WP_exit, exThen_normal, exThen_exit, exThen_ret, exBlock_normal, exBlock_exit, exBlock_ret, W_nil, W_cons, W_consG, I.at, atL, atO, atP, put_some, put_none, ev_t, ev_c, evp, evs, upd_apply, ↓reduceIte, Nat.reduceEqDiff, reduceCtorEq, Value.bool.injEq, Bool.false_eq_true, Bool.true_eq_false, iteW_true, iteW_false, X_mov, X_pick, X_add, X_sub, X_mul, X_and, X_or, X_xor, X_andNot, X_eql, X_neq, X_lss, X_leq, X_gtr, X_geq, X_eqb, X_eqp, X_not, X_neg, X_cnv, X_ext, X_nil, X_nilF, X_fad, X_fld, X_fldn, X_mnx, X_mkf, X_mki, getK_0, bff, btf, Option.isNone_some, Option.isNone_none, getK_succ, endQ_ret, endQ_normal, retV, resK_0, resK_t, resK_ce, resK_cn, initT_eq, List.getD_cons_zero, List.getD_cons_succ]
  refine Row.Xstn (vs := [rb, rw]) hr3 rfl (by simp [s8, s16]) (by simp) fun w3 hr hg => ?_
  have hB := Below.row hB hb3 hg
  clear hg hr3 hb3
  have hF := hF.up hB
  have hG := hG.up hB
  have hro := hro.up hB
  have hb := hb.up hB
  have hw := hw.up hB
  have B3 : RowKit.Below w.heap.size w w3 := B2.trans (hB.mono B2.size)
  clear hB B2
  simp only [List.getElem_cons_zero, List.getElem_cons_succ, and_true, true_and, decide_true, decide_false, Bool.not_true, Bool.not_false, WP_seq, WP_ops, WP_ite, WP_block, WP_skip, WP_ret, WP_exit, exThen_normal, exThen_exit, exThen_ret, exBlock_normal, exBlock_exit, exBlock_ret, W_nil, W_cons, W_consG, I.at, atL, atO, atP, put_some, put_none, ev_t, ev_c, evp, evs, upd_apply, ↓reduceIte, Nat.reduceEqDiff, reduceCtorEq, Value.bool.injEq, Bool.false_eq_true, Bool.true_eq_false, iteW_true, iteW_false, X_mov, X_pick, X_add, X_sub, X_mul, X_and, X_or, X_xor, X_andNot, X_eql, X_neq, X_lss, X_leq, X_gtr, X_geq, X_eqb, X_eqp, X_not, X_neg, X_cnv, X_ext, X_nil, X_nilF, X_fad, X_fld, X_fldn, X_mnx, X_mkf, X_mki, getK_0, bff, btf, Option.isNone_some, Option.isNone_none, getK_succ, endQ_ret, endQ_normal, retV, resK_0, resK_t, resK_ce, resK_cn, initT_eq, List.getD_cons_zero, List.getD_cons_succ, hr.Xldn (n := 2) rfl]
  refine X_call0 ((culletlaw04_awake_spec w3 rb rw hb hw).mono ?_)
  rintro _ w4 ⟨rfl, hB⟩
  have hF := hF.up hB
  have hG := hG.up hB
  have hro := hro.up hB
  have hb := hb.up hB
  have hw := hw.up hB
  have hr := hr.up hB
  have B4 : RowKit.Below w.heap.size w w4 := B3.trans (hB.mono B3.size)
  clear hB B3
  simp only [List.getElem_cons_zero, List.getElem_cons_succ, and_true, true_and, decide_true, decide_false, Bool.not_true, Bool.not_false, WP_seq, WP_ops, WP_ite, WP_block, WP_skip, WP_ret, WP_exit, exThen_normal, exThen_exit, exThen_ret, exBlock_normal, exBlock_exit, exBlock_ret, W_nil, W_cons, W_consG, I.at, atL, atO, atP, put_some, put_none, ev_t, ev_c, evp, evs, upd_apply, ↓reduceIte, Nat.reduceEqDiff, reduceCtorEq, Value.bool.injEq, Bool.false_eq_true, Bool.true_eq_false, iteW_true, iteW_false, X_mov, X_pick, X_add, X_sub, X_mul, X_and, X_or, X_xor, X_andNot, X_eql, X_neq, X_lss, X_leq, X_gtr, X_geq, X_eqb, X_eqp, X_not, X_neg, X_cnv, X_ext, X_nil, X_nilF, X_fad, X_fld, X_fldn, X_mnx, X_mkf, X_mki, getK_0, bff, btf, Option.isNone_some, Option.isNone_none, getK_succ, endQ_ret, endQ_normal, retV, resK_0, resK_t, resK_ce, resK_cn, initT_eq, List.getD_cons_zero, List.getD_cons_succ, hr.Xldn (n := 2) rfl, addr_add0, Nat.zero_add, Nat.add_zero, hro.Xld (show 1 < _ by simp)]
  refine X_bsl (zs := [(⟨7⟩ : El 16), (⟨6⟩ : El 16), (⟨5⟩ : El 16), (⟨4⟩ : El 16)]) (by rfl) (by rfl) fun c1 w5 c1o hB => ?_
  have hF := hF.up hB
  have hG := hG.up hB
  have hro := hro.up hB
  have hb := hb.up hB
  have hw := hw.up hB
  have hr := hr.up hB
  have B5 : RowKit.Below w.heap.size w w5 := B4.trans (hB.mono B4.size)
  clear hB B4
  have hc1 := c1o.sl
  simp only [List.getElem_cons_zero, List.getElem_cons_succ, and_true, true_and, decide_true, decide_false, Bool.not_true, Bool.not_false, WP_seq, WP_ops, WP_ite, WP_block, WP_skip, WP_ret, WP_exit, exThen_normal, exThen_exit, exThen_ret, exBlock_normal, exBlock_exit, exBlock_ret, W_nil, W_cons, W_consG, I.at, atL, atO, atP, put_some, put_none, ev_t, ev_c, evp, evs, upd_apply, ↓reduceIte, Nat.reduceEqDiff, reduceCtorEq, Value.bool.injEq, Bool.false_eq_true, Bool.true_eq_false, iteW_true, iteW_false, X_mov, X_pick, X_add, X_sub, X_mul, X_and, X_or, X_xor, X_andNot, X_eql, X_neq, X_lss, X_leq, X_gtr, X_geq, X_eqb, X_eqp, X_not, X_neg, X_cnv, X_ext, X_nil, X_nilF, X_fad, X_fld, X_fldn, X_mnx, X_mkf, X_mki, getK_0, bff, btf, Option.isNone_some, Option.isNone_none, getK_succ, endQ_ret, endQ_normal, retV, resK_0, resK_t, resK_ce, resK_cn, initT_eq, List.getD_cons_zero, List.getD_cons_succ]
  refine X_call0 ((culletlaw04_Rings_derivative_w_spec w5 rb rw c1 _ hb hw hc1 (by simp)).mono ?_)
  rintro D w6 ⟨hB, m, om, ht, hc, -⟩
  rw [lb_w m ht hc] at om
  have om := om.sl
  clear ht hc
  have hF := hF.up hB
  have hG := hG.up hB
  have hro := hro.up hB
  have hb := hb.up hB
  have hw := hw.up hB
  have hr := hr.up hB
  have B6 : RowKit.Below w.heap.size w w6 := B5.trans (hB.mono B5.size)
  clear hB B5
  simp only [List.getElem_cons_zero, List.getElem_cons_succ, and_true, true_and, decide_true, decide_false, Bool.not_true, Bool.not_false, WP_seq, WP_ops, WP_ite, WP_block, WP_skip, WP_ret, WP_exit, exThen_normal, exThen_exit, exThen_ret, exBlock_normal, exBlock_exit, exBlock_ret, W_nil, W_cons, W_consG, I.at, atL, atO, atP, put_some, put_none, ev_t, ev_c, evp, evs, upd_apply, ↓reduceIte, Nat.reduceEqDiff, reduceCtorEq, Value.bool.injEq, Bool.false_eq_true, Bool.true_eq_false, iteW_true, iteW_false, X_mov, X_pick, X_add, X_sub, X_mul, X_and, X_or, X_xor, X_andNot, X_eql, X_neq, X_lss, X_leq, X_gtr, X_geq, X_eqb, X_eqp, X_not, X_neg, X_cnv, X_ext, X_nil, X_nilF, X_fad, X_fld, X_fldn, X_mnx, X_mkf, X_mki, getK_0, bff, btf, Option.isNone_some, Option.isNone_none, getK_succ, endQ_ret, endQ_normal, retV, resK_0, resK_t, resK_ce, resK_cn, initT_eq, List.getD_cons_zero, List.getD_cons_succ]
  refine X_bsl (zs := [(⟨6⟩ : El 16), (⟨0⟩ : El 16), (⟨4⟩ : El 16)]) (by rfl) (by rfl) fun c2 w7 c2o hB => ?_
  have hF := hF.up hB
  have hG := hG.up hB
  have hro := hro.up hB
  have hb := hb.up hB
  have hw := hw.up hB
  have hr := hr.up hB
  have om := om.up hB
  have B7 : RowKit.Below w.heap.size w w7 := B6.trans (hB.mono B6.size)
  clear hB B6
  have hc2 := c2o.sl
  simp only [List.getElem_cons_zero, List.getElem_cons_succ, and_true, true_and, decide_true, decide_false, Bool.not_true, Bool.not_false, WP_seq, WP_ops, WP_ite, WP_block, WP_skip, WP_ret, WP_exit, exThen_normal, exThen_exit, exThen_ret, exBlock_normal, exBlock_exit, exBlock_ret, W_nil, W_cons, W_consG, I.at, atL, atO, atP, put_some, put_none, ev_t, ev_c, evp, evs, upd_apply, ↓reduceIte, Nat.reduceEqDiff, reduceCtorEq, Value.bool.injEq, Bool.false_eq_true, Bool.true_eq_false, iteW_true, iteW_false, X_mov, X_pick, X_add, X_sub, X_mul, X_and, X_or, X_xor, X_andNot, X_eql, X_neq, X_lss, X_leq, X_gtr, X_geq, X_eqb, X_eqp, X_not, X_neg, X_cnv, X_ext, X_nil, X_nilF, X_fad, X_fld, X_fldn, X_mnx, X_mkf, X_mki, getK_0, bff, btf, Option.isNone_some, Option.isNone_none, getK_succ, endQ_ret, endQ_normal, retV, resK_0, resK_t, resK_ce, resK_cn, initT_eq, List.getD_cons_zero, List.getD_cons_succ]
  refine X_call0 ((culletlaw04_same_spec w7 D c2 _ _ om hc2 (by simp) (by simp)).mono ?_)
  rintro _ w8 ⟨rfl, hk⟩
  have hB := hk.1
  clear hk
  have hF := hF.up hB
  have hG := hG.up hB
  have hro := hro.up hB
  have hb := hb.up hB
  have hw := hw.up hB
  have hr := hr.up hB
  have B8 : RowKit.Below w.heap.size w w8 := B7.trans (hB.mono B7.size)
  clear hB B7
  simp only [List.getElem_cons_zero, List.getElem_cons_succ, and_true, true_and, decide_true, decide_false, Bool.not_true, Bool.not_false, WP_seq, WP_ops, WP_ite, WP_block, WP_skip, WP_ret, WP_exit, exThen_normal, exThen_exit, exThen_ret, exBlock_normal, exBlock_exit, exBlock_ret, W_nil, W_cons, W_consG, I.at, atL, atO, atP, put_some, put_none, ev_t, ev_c, evp, evs, upd_apply, ↓reduceIte, Nat.reduceEqDiff, reduceCtorEq, Value.bool.injEq, Bool.false_eq_true, Bool.true_eq_false, iteW_true, iteW_false, X_mov, X_pick, X_add, X_sub, X_mul, X_and, X_or, X_xor, X_andNot, X_eql, X_neq, X_lss, X_leq, X_gtr, X_geq, X_eqb, X_eqp, X_not, X_neg, X_cnv, X_ext, X_nil, X_nilF, X_fad, X_fld, X_fldn, X_mnx, X_mkf, X_mki, getK_0, bff, btf, Option.isNone_some, Option.isNone_none, getK_succ, endQ_ret, endQ_normal, retV, resK_0, resK_t, resK_ce, resK_cn, initT_eq, List.getD_cons_zero, List.getD_cons_succ, addr_add0, Nat.zero_add, Nat.add_zero, hro.Xld (show 1 < _ by simp), hro.Xld (show 2 < _ by simp)]
  refine X_call0 ((culletlaw04_cut_w_spec w8 F LF hF hlF).mono ?_)
  rintro P w9 ⟨hP, hB⟩
  have hP := hP.sl
  have hF := hF.up hB
  have hG := hG.up hB
  have hro := hro.up hB
  have hb := hb.up hB
  have hw := hw.up hB
  have hr := hr.up hB
  have B9 : RowKit.Below w.heap.size w w9 := B8.trans (hB.mono B8.size)
  clear hB B8
  generalize hqQ : LF.map lo16 = Q at hP
  have lP : (Q.map em16).length = Q.length := List.length_map _
  have bQ : Q.length ≤ 70368744175616 := by rw [← hqQ, List.length_map]; exact hlF
  simp only [List.getElem_cons_zero, List.getElem_cons_succ, and_true, true_and, decide_true, decide_false, Bool.not_true, Bool.not_false, WP_seq, WP_ops, WP_ite, WP_block, WP_skip, WP_ret, WP_exit, exThen_normal, exThen_exit, exThen_ret, exBlock_normal, exBlock_exit, exBlock_ret, W_nil, W_cons, W_consG, I.at, atL, atO, atP, put_some, put_none, ev_t, ev_c, evp, evs, upd_apply, ↓reduceIte, Nat.reduceEqDiff, reduceCtorEq, Value.bool.injEq, Bool.false_eq_true, Bool.true_eq_false, iteW_true, iteW_false, X_mov, X_pick, X_add, X_sub, X_mul, X_and, X_or, X_xor, X_andNot, X_eql, X_neq, X_lss, X_leq, X_gtr, X_geq, X_eqb, X_eqp, X_not, X_neg, X_cnv, X_ext, X_nil, X_nilF, X_fad, X_fld, X_fldn, X_mnx, X_mkf, X_mki, getK_0, bff, btf, Option.isNone_some, Option.isNone_none, getK_succ, endQ_ret, endQ_normal, retV, resK_0, resK_t, resK_ce, resK_cn, initT_eq, List.getD_cons_zero, List.getD_cons_succ, addr_add0, Nat.zero_add, Nat.add_zero, hro.Xld (show 1 < _ by simp), hro.Xld (show 3 < _ by simp)]
  refine X_call0 ((culletlaw04_cut_w_spec w9 G LG hG hlG).mono ?_)
  rintro P2 w10 ⟨hP2, hB⟩
  have hP2 := hP2.sl
  have hG := hG.up hB
  have hro := hro.up hB
  have hb := hb.up hB
  have hw := hw.up hB
  have hr := hr.up hB
  have hP := hP.up hB
  have B10 : RowKit.Below w.heap.size w w10 := B9.trans (hB.mono B9.size)
  clear hB B9
  generalize hqQ2 : LG.map lo16 = Q2 at hP2
  have lP2 : (Q2.map em16).length = Q2.length := List.length_map _
  have bQ2 : Q2.length ≤ 70368744175616 := by rw [← hqQ2, List.length_map]; exact hlG
  simp only [List.getElem_cons_zero, List.getElem_cons_succ, and_true, true_and, decide_true, decide_false, Bool.not_true, Bool.not_false, WP_seq, WP_ops, WP_ite, WP_block, WP_skip, WP_ret, WP_exit, exThen_normal, exThen_exit, exThen_ret, exBlock_normal, exBlock_exit, exBlock_ret, W_nil, W_cons, W_consG, I.at, atL, atO, atP, put_some, put_none, ev_t, ev_c, evp, evs, upd_apply, ↓reduceIte, Nat.reduceEqDiff, reduceCtorEq, Value.bool.injEq, Bool.false_eq_true, Bool.true_eq_false, iteW_true, iteW_false, X_mov, X_pick, X_add, X_sub, X_mul, X_and, X_or, X_xor, X_andNot, X_eql, X_neq, X_lss, X_leq, X_gtr, X_geq, X_eqb, X_eqp, X_not, X_neg, X_cnv, X_ext, X_nil, X_nilF, X_fad, X_fld, X_fldn, X_mnx, X_mkf, X_mki, getK_0, bff, btf, Option.isNone_some, Option.isNone_none, getK_succ, endQ_ret, endQ_normal, retV, resK_0, resK_t, resK_ce, resK_cn, initT_eq, List.getD_cons_zero, List.getD_cons_succ, hP.Xlen, lP]
  by_cases hbig : 1024 < Q.length
  · simp only [List.getElem_cons_zero, List.getElem_cons_succ, and_true, true_and, decide_true, decide_false, Bool.not_true, Bool.not_false, WP_seq, WP_ops, WP_ite, WP_block, WP_skip, WP_ret, WP_exit, exThen_normal, exThen_exit, exThen_ret, exBlock_normal, exBlock_exit, exBlock_ret, W_nil, W_cons, W_consG, I.at, atL, atO, atP, put_some, put_none, ev_t, ev_c, evp, evs, upd_apply, ↓reduceIte, Nat.reduceEqDiff, reduceCtorEq, Value.bool.injEq, Bool.false_eq_true, Bool.true_eq_false, iteW_true, iteW_false, X_mov, X_pick, X_add, X_sub, X_mul, X_and, X_or, X_xor, X_andNot, X_eql, X_neq, X_lss, X_leq, X_gtr, X_geq, X_eqb, X_eqp, X_not, X_neg, X_cnv, X_ext, X_nil, X_nilF, X_fad, X_fld, X_fldn, X_mnx, X_mkf, X_mki, getK_0, bff, btf, Option.isNone_some, Option.isNone_none, getK_succ, endQ_ret, endQ_normal, retV, resK_0, resK_t, resK_ce, resK_cn, initT_eq, List.getD_cons_zero, List.getD_cons_succ, show decide ((1024 : Int) < (Q.length : Int)) = true from decide_eq_true (by omega)]
    exact B10
  simp only [List.getElem_cons_zero, List.getElem_cons_succ, and_true, true_and, decide_true, decide_false, Bool.not_true, Bool.not_false, WP_seq, WP_ops, WP_ite, WP_block, WP_skip, WP_ret, WP_exit, exThen_normal, exThen_exit, exThen_ret, exBlock_normal, exBlock_exit, exBlock_ret, W_nil, W_cons, W_consG, I.at, atL, atO, atP, put_some, put_none, ev_t, ev_c, evp, evs, upd_apply, ↓reduceIte, Nat.reduceEqDiff, reduceCtorEq, Value.bool.injEq, Bool.false_eq_true, Bool.true_eq_false, iteW_true, iteW_false, X_mov, X_pick, X_add, X_sub, X_mul, X_and, X_or, X_xor, X_andNot, X_eql, X_neq, X_lss, X_leq, X_gtr, X_geq, X_eqb, X_eqp, X_not, X_neg, X_cnv, X_ext, X_nil, X_nilF, X_fad, X_fld, X_fldn, X_mnx, X_mkf, X_mki, getK_0, bff, btf, Option.isNone_some, Option.isNone_none, getK_succ, endQ_ret, endQ_normal, retV, resK_0, resK_t, resK_ce, resK_cn, initT_eq, List.getD_cons_zero, List.getD_cons_succ, hP2.Xlen, lP2, show decide ((1024 : Int) < (Q.length : Int)) = false from decide_eq_false (by omega)]
  by_cases hbig2 : 1024 < Q2.length
  · simp only [List.getElem_cons_zero, List.getElem_cons_succ, and_true, true_and, decide_true, decide_false, Bool.not_true, Bool.not_false, WP_seq, WP_ops, WP_ite, WP_block, WP_skip, WP_ret, WP_exit, exThen_normal, exThen_exit, exThen_ret, exBlock_normal, exBlock_exit, exBlock_ret, W_nil, W_cons, W_consG, I.at, atL, atO, atP, put_some, put_none, ev_t, ev_c, evp, evs, upd_apply, ↓reduceIte, Nat.reduceEqDiff, reduceCtorEq, Value.bool.injEq, Bool.false_eq_true, Bool.true_eq_false, iteW_true, iteW_false, X_mov, X_pick, X_add, X_sub, X_mul, X_and, X_or, X_xor, X_andNot, X_eql, X_neq, X_lss, X_leq, X_gtr, X_geq, X_eqb, X_eqp, X_not, X_neg, X_cnv, X_ext, X_nil, X_nilF, X_fad, X_fld, X_fldn, X_mnx, X_mkf, X_mki, getK_0, bff, btf, Option.isNone_some, Option.isNone_none, getK_succ, endQ_ret, endQ_normal, retV, resK_0, resK_t, resK_ce, resK_cn, initT_eq, List.getD_cons_zero, List.getD_cons_succ, show decide ((1024 : Int) < (Q2.length : Int)) = true from decide_eq_true (by omega)]
    exact B10
  simp only [List.getElem_cons_zero, List.getElem_cons_succ, and_true, true_and, decide_true, decide_false, Bool.not_true, Bool.not_false, WP_seq, WP_ops, WP_ite, WP_block, WP_skip, WP_ret, WP_exit, exThen_normal, exThen_exit, exThen_ret, exBlock_normal, exBlock_exit, exBlock_ret, W_nil, W_cons, W_consG, I.at, atL, atO, atP, put_some, put_none, ev_t, ev_c, evp, evs, upd_apply, ↓reduceIte, Nat.reduceEqDiff, reduceCtorEq, Value.bool.injEq, Bool.false_eq_true, Bool.true_eq_false, iteW_true, iteW_false, X_mov, X_pick, X_add, X_sub, X_mul, X_and, X_or, X_xor, X_andNot, X_eql, X_neq, X_lss, X_leq, X_gtr, X_geq, X_eqb, X_eqp, X_not, X_neg, X_cnv, X_ext, X_nil, X_nilF, X_fad, X_fld, X_fldn, X_mnx, X_mkf, X_mki, getK_0, bff, btf, Option.isNone_some, Option.isNone_none, getK_succ, endQ_ret, endQ_normal, retV, resK_0, resK_t, resK_ce, resK_cn, initT_eq, List.getD_cons_zero, List.getD_cons_succ, show decide ((1024 : Int) < (Q2.length : Int)) = false from decide_eq_false (by omega), hr.Xldn (n := 2) rfl, addr_add0, Nat.zero_add, Nat.add_zero, hro.Xld (show 1 < _ by simp)]
  refine X_call0 ((culletlaw04_Rings_mul_w_spec w10 rb rw P P2 _ _ hb hw hP hP2 (by simp only [List.length_map]; omega) (by simp only [List.length_map]; omega)).mono ?_)
  rw [lo16_map_em16, lo16_map_em16]
  rintro _ w11 ⟨hB, ⟨-, -, S1, m1, rfl, hS1, ht1, hc1, hl1⟩ | ⟨hn, -⟩⟩
  rotate_left
  · exact absurd ⟨by simp only [List.length_map]; omega, by simp only [List.length_map]; omega⟩ hn
  have hS1 := hS1.sl
  have hro := hro.up hB
  have hb := hb.up hB
  have hw := hw.up hB
  have hr := hr.up hB
  have hP := hP.up hB
  have hP2 := hP2.up hB
  have B11 : RowKit.Below w.heap.size w w11 := B10.trans (hB.mono B10.size)
  clear hB B10
  simp only [List.getElem_cons_zero, List.getElem_cons_succ, and_true, true_and, decide_true, decide_false, Bool.not_true, Bool.not_false, WP_seq, WP_ops, WP_ite, WP_block, WP_skip, WP_ret, WP_exit, exThen_normal, exThen_exit, exThen_ret, exBlock_normal, exBlock_exit, exBlock_ret, W_nil, W_cons, W_consG, I.at, atL, atO, atP, put_some, put_none, ev_t, ev_c, evp, evs, upd_apply, ↓reduceIte, Nat.reduceEqDiff, reduceCtorEq, Value.bool.injEq, Bool.false_eq_true, Bool.true_eq_false, iteW_true, iteW_false, X_mov, X_pick, X_add, X_sub, X_mul, X_and, X_or, X_xor, X_andNot, X_eql, X_neq, X_lss, X_leq, X_gtr, X_geq, X_eqb, X_eqp, X_not, X_neg, X_cnv, X_ext, X_nil, X_nilF, X_fad, X_fld, X_fldn, X_mnx, X_mkf, X_mki, getK_0, bff, btf, Option.isNone_some, Option.isNone_none, getK_succ, endQ_ret, endQ_normal, retV, resK_0, resK_t, resK_ce, resK_cn, initT_eq, List.getD_cons_zero, List.getD_cons_succ, show decide ((0 : Int) = 0) = true from rfl]
  refine WP_dops ?_
  simp only [WE_nil, WE_cons, WE_consG, okR_nil, okR_cons, okR_u, mem_u_nil, okE_nil, okE_cons, okE_u, List.mem_cons, List.not_mem_nil, or_self, List.getElem_cons_zero, List.getElem_cons_succ, or_false, false_or, false_implies, implies_true, forall_const, E_mov, E_pick, E_add, E_sub, E_mul, E_and, E_or, E_xor, E_andNot, E_eql, E_neq, E_lss, E_leq, E_gtr, E_geq, E_eqb, E_eqp, E_not, E_neg, E_cnv, E_ext, E_nil, E_nilF, E_fad, E_fld, E_fldn, E_mnx, E_mkf, E_mki, List.getElem_cons_zero, List.getElem_cons_succ, and_true, true_and, decide_true, decide_false, Bool.not_true, Bool.not_false, WP_seq, WP_ops, WP_ite, WP_block, WP_skip, WP_ret, WP_exit, exThen_normal, exThen_exit, exThen_ret, exBlock_normal, exBlock_exit, exBlock_ret, W_nil, W_cons, W_consG, I.at, atL, atO, atP, put_some, put_none, ev_t, ev_c, evp, evs, upd_apply, ↓reduceIte, Nat.reduceEqDiff, reduceCtorEq, Value.bool.injEq, Bool.false_eq_true, Bool.true_eq_false, iteW_true, iteW_false, X_mov, X_pick, X_add, X_sub, X_mul, X_and, X_or, X_xor, X_andNot, X_eql, X_neq, X_lss, X_leq, X_gtr, X_geq, X_eqb, X_eqp, X_not, X_neg, X_cnv, X_ext, X_nil, X_nilF, X_fad, X_fld, X_fldn, X_mnx, X_mkf, X_mki, getK_0, bff, btf, Option.isNone_some, Option.isNone_none, getK_succ, endQ_ret, endQ_normal, retV, resK_0, resK_t, resK_ce, resK_cn, initT_eq, List.getD_cons_zero, List.getD_cons_succ, addr_add0, Nat.zero_add, Nat.add_zero, hr.drew.Eldn (n := 2) rfl, hro.drew.Eld (show 1 < _ by simp)]
  refine E_call0 ((culletlaw04_Rings_derivative_w_spec w11.drew rb rw P _ hb.drew hw.drew hP.drew (by simp only [List.length_map]; omega)).mono ?_)
  rw [lo16_map_em16]
  rintro D1 w12 ⟨hB, d1, hD1, ht2, hc2, hl2⟩
  have hD1 := hD1.sl
  have hB := (bel_drew w11).trans hB
  have hro := hro.up hB
  have hb := hb.up hB
  have hw := hw.up hB
  have hr := hr.up hB
  have hP := hP.up hB
  have hP2 := hP2.up hB
  have hS1 := hS1.up hB
  have B12 : RowKit.Below w.heap.size w w12 := B11.trans (hB.mono B11.size)
  clear hB B11
  have zo : Fw.sees Try.prog (.ld (.c (.pointer (some ⟨bo, 1, none⟩)))) w12 (.bool true) = True := hro.sees (o := 1) (by simp) Try.prog
  simp only [WE_nil, WE_cons, WE_consG, okR_nil, okR_cons, okR_u, mem_u_nil, okE_nil, okE_cons, okE_u, List.mem_cons, List.not_mem_nil, or_self, List.getElem_cons_zero, List.getElem_cons_succ, or_false, false_or, false_implies, implies_true, forall_const, E_mov, E_pick, E_add, E_sub, E_mul, E_and, E_or, E_xor, E_andNot, E_eql, E_neq, E_lss, E_leq, E_gtr, E_geq, E_eqb, E_eqp, E_not, E_neg, E_cnv, E_ext, E_nil, E_nilF, E_fad, E_fld, E_fldn, E_mnx, E_mkf, E_mki, List.getElem_cons_zero, List.getElem_cons_succ, and_true, true_and, decide_true, decide_false, Bool.not_true, Bool.not_false, WP_seq, WP_ops, WP_ite, WP_block, WP_skip, WP_ret, WP_exit, exThen_normal, exThen_exit, exThen_ret, exBlock_normal, exBlock_exit, exBlock_ret, W_nil, W_cons, W_consG, I.at, atL, atO, atP, put_some, put_none, ev_t, ev_c, evp, evs, upd_apply, ↓reduceIte, Nat.reduceEqDiff, reduceCtorEq, Value.bool.injEq, Bool.false_eq_true, Bool.true_eq_false, iteW_true, iteW_false, X_mov, X_pick, X_add, X_sub, X_mul, X_and, X_or, X_xor, X_andNot, X_eql, X_neq, X_lss, X_leq, X_gtr, X_geq, X_eqb, X_eqp, X_not, X_neg, X_cnv, X_ext, X_nil, X_nilF, X_fad, X_fld, X_fldn, X_mnx, X_mkf, X_mki, getK_0, bff, btf, Option.isNone_some, Option.isNone_none, getK_succ, endQ_ret, endQ_normal, retV, resK_0, resK_t, resK_ce, resK_cn, initT_eq, List.getD_cons_zero, List.getD_cons_succ, hr.seesN (n := 2) rfl, zo]
  refine E_call0 ((culletlaw04_Rings_mul_w_spec w12 rb rw D1 P2 _ _ hb hw hD1 hP2 (by simp only [List.length_map]; omega) (by simp only [List.length_map]; omega)).mono ?_)
  rw [lo16_map_em16, lo16_map_em16]
  rintro _ w13 ⟨hB, ⟨-, -, S2, m2, rfl, hS2, ht3, hc3, hl3⟩ | ⟨hn, -⟩⟩
  rotate_left
  · exact absurd ⟨by simp only [List.length_map]; omega, by simp only [List.length_map]; omega⟩ hn
  have hS2 := hS2.sl
  have hro := hro.up hB
  have hb := hb.up hB
  have hw := hw.up hB
  have hr := hr.up hB
  have hP := hP.up hB
  have hP2 := hP2.up hB
  have hS1 := hS1.up hB
  have hD1 := hD1.up hB
  have B13 : RowKit.Below w.heap.size w w13 := B12.trans (hB.mono B12.size)
  clear hB B12
  simp only [WE_nil, WE_cons, WE_consG, okR_nil, okR_cons, okR_u, mem_u_nil, okE_nil, okE_cons, okE_u, List.mem_cons, List.not_mem_nil, or_self, List.getElem_cons_zero, List.getElem_cons_succ, or_false, false_or, false_implies, implies_true, forall_const, E_mov, E_pick, E_add, E_sub, E_mul, E_and, E_or, E_xor, E_andNot, E_eql, E_neq, E_lss, E_leq, E_gtr, E_geq, E_eqb, E_eqp, E_not, E_neg, E_cnv, E_ext, E_nil, E_nilF, E_fad, E_fld, E_fldn, E_mnx, E_mkf, E_mki, List.getElem_cons_zero, List.getElem_cons_succ, and_true, true_and, decide_true, decide_false, Bool.not_true, Bool.not_false, WP_seq, WP_ops, WP_ite, WP_block, WP_skip, WP_ret, WP_exit, exThen_normal, exThen_exit, exThen_ret, exBlock_normal, exBlock_exit, exBlock_ret, W_nil, W_cons, W_consG, I.at, atL, atO, atP, put_some, put_none, ev_t, ev_c, evp, evs, upd_apply, ↓reduceIte, Nat.reduceEqDiff, reduceCtorEq, Value.bool.injEq, Bool.false_eq_true, Bool.true_eq_false, iteW_true, iteW_false, X_mov, X_pick, X_add, X_sub, X_mul, X_and, X_or, X_xor, X_andNot, X_eql, X_neq, X_lss, X_leq, X_gtr, X_geq, X_eqb, X_eqp, X_not, X_neg, X_cnv, X_ext, X_nil, X_nilF, X_fad, X_fld, X_fldn, X_mnx, X_mkf, X_mki, getK_0, bff, btf, Option.isNone_some, Option.isNone_none, getK_succ, endQ_ret, endQ_normal, retV, resK_0, resK_t, resK_ce, resK_cn, initT_eq, List.getD_cons_zero, List.getD_cons_succ]
  refine WP_dops ?_
  simp only [WE_nil, WE_cons, WE_consG, okR_nil, okR_cons, okR_u, mem_u_nil, okE_nil, okE_cons, okE_u, List.mem_cons, List.not_mem_nil, or_self, List.getElem_cons_zero, List.getElem_cons_succ, or_false, false_or, false_implies, implies_true, forall_const, E_mov, E_pick, E_add, E_sub, E_mul, E_and, E_or, E_xor, E_andNot, E_eql, E_neq, E_lss, E_leq, E_gtr, E_geq, E_eqb, E_eqp, E_not, E_neg, E_cnv, E_ext, E_nil, E_nilF, E_fad, E_fld, E_fldn, E_mnx, E_mkf, E_mki, List.getElem_cons_zero, List.getElem_cons_succ, and_true, true_and, decide_true, decide_false, Bool.not_true, Bool.not_false, WP_seq, WP_ops, WP_ite, WP_block, WP_skip, WP_ret, WP_exit, exThen_normal, exThen_exit, exThen_ret, exBlock_normal, exBlock_exit, exBlock_ret, W_nil, W_cons, W_consG, I.at, atL, atO, atP, put_some, put_none, ev_t, ev_c, evp, evs, upd_apply, ↓reduceIte, Nat.reduceEqDiff, reduceCtorEq, Value.bool.injEq, Bool.false_eq_true, Bool.true_eq_false, iteW_true, iteW_false, X_mov, X_pick, X_add, X_sub, X_mul, X_and, X_or, X_xor, X_andNot, X_eql, X_neq, X_lss, X_leq, X_gtr, X_geq, X_eqb, X_eqp, X_not, X_neg, X_cnv, X_ext, X_nil, X_nilF, X_fad, X_fld, X_fldn, X_mnx, X_mkf, X_mki, getK_0, bff, btf, Option.isNone_some, Option.isNone_none, getK_succ, endQ_ret, endQ_normal, retV, resK_0, resK_t, resK_ce, resK_cn, initT_eq, List.getD_cons_zero, List.getD_cons_succ, addr_add0, Nat.zero_add, Nat.add_zero, hr.drew.Eldn (n := 2) rfl, hro.drew.Eld (show 1 < _ by simp)]
  refine E_call0 ((culletlaw04_Rings_derivative_w_spec w13.drew rb rw P2 _ hb.drew hw.drew hP2.drew (by simp only [List.length_map]; omega)).mono ?_)
  rw [lo16_map_em16]
  rintro D2 w14 ⟨hB, d2, hD2, ht4, hc4, hl4⟩
  have hD2 := hD2.sl
  have hB := (bel_drew w13).trans hB
  have hro := hro.up hB
  have hb := hb.up hB
  have hw := hw.up hB
  have hr := hr.up hB
  have hP := hP.up hB
  have hP2 := hP2.up hB
  have hS1 := hS1.up hB
  have hD1 := hD1.up hB
  have hS2 := hS2.up hB
  have B14 : RowKit.Below w.heap.size w w14 := B13.trans (hB.mono B13.size)
  clear hB B13
  have zo : Fw.sees Try.prog (.ld (.c (.pointer (some ⟨bo, 1, none⟩)))) w14 (.bool true) = True := hro.sees (o := 1) (by simp) Try.prog
  simp only [WE_nil, WE_cons, WE_consG, okR_nil, okR_cons, okR_u, mem_u_nil, okE_nil, okE_cons, okE_u, List.mem_cons, List.not_mem_nil, or_self, List.getElem_cons_zero, List.getElem_cons_succ, or_false, false_or, false_implies, implies_true, forall_const, E_mov, E_pick, E_add, E_sub, E_mul, E_and, E_or, E_xor, E_andNot, E_eql, E_neq, E_lss, E_leq, E_gtr, E_geq, E_eqb, E_eqp, E_not, E_neg, E_cnv, E_ext, E_nil, E_nilF, E_fad, E_fld, E_fldn, E_mnx, E_mkf, E_mki, List.getElem_cons_zero, List.getElem_cons_succ, and_true, true_and, decide_true, decide_false, Bool.not_true, Bool.not_false, WP_seq, WP_ops, WP_ite, WP_block, WP_skip, WP_ret, WP_exit, exThen_normal, exThen_exit, exThen_ret, exBlock_normal, exBlock_exit, exBlock_ret, W_nil, W_cons, W_consG, I.at, atL, atO, atP, put_some, put_none, ev_t, ev_c, evp, evs, upd_apply, ↓reduceIte, Nat.reduceEqDiff, reduceCtorEq, Value.bool.injEq, Bool.false_eq_true, Bool.true_eq_false, iteW_true, iteW_false, X_mov, X_pick, X_add, X_sub, X_mul, X_and, X_or, X_xor, X_andNot, X_eql, X_neq, X_lss, X_leq, X_gtr, X_geq, X_eqb, X_eqp, X_not, X_neg, X_cnv, X_ext, X_nil, X_nilF, X_fad, X_fld, X_fldn, X_mnx, X_mkf, X_mki, getK_0, bff, btf, Option.isNone_some, Option.isNone_none, getK_succ, endQ_ret, endQ_normal, retV, resK_0, resK_t, resK_ce, resK_cn, initT_eq, List.getD_cons_zero, List.getD_cons_succ, hr.seesN (n := 2) rfl, zo]
  refine E_call0 ((culletlaw04_Rings_mul_w_spec w14 rb rw P D2 _ _ hb hw hP hD2 (by simp only [List.length_map]; omega) (by simp only [List.length_map]; omega)).mono ?_)
  rw [lo16_map_em16, lo16_map_em16]
  rintro _ w15 ⟨hB, ⟨-, -, S3, m3, rfl, hS3, ht5, hc5, hl5⟩ | ⟨hn, -⟩⟩
  rotate_left
  · exact absurd ⟨by simp only [List.length_map]; omega, by simp only [List.length_map]; omega⟩ hn
  have hS3 := hS3.sl
  have hro := hro.up hB
  have hb := hb.up hB
  have hw := hw.up hB
  have hr := hr.up hB
  have hP := hP.up hB
  have hP2 := hP2.up hB
  have hS1 := hS1.up hB
  have hD1 := hD1.up hB
  have hS2 := hS2.up hB
  have hD2 := hD2.up hB
  have B15 : RowKit.Below w.heap.size w w15 := B14.trans (hB.mono B14.size)
  clear hB B14
  simp only [WE_nil, WE_cons, WE_consG, okR_nil, okR_cons, okR_u, mem_u_nil, okE_nil, okE_cons, okE_u, List.mem_cons, List.not_mem_nil, or_self, List.getElem_cons_zero, List.getElem_cons_succ, or_false, false_or, false_implies, implies_true, forall_const, E_mov, E_pick, E_add, E_sub, E_mul, E_and, E_or, E_xor, E_andNot, E_eql, E_neq, E_lss, E_leq, E_gtr, E_geq, E_eqb, E_eqp, E_not, E_neg, E_cnv, E_ext, E_nil, E_nilF, E_fad, E_fld, E_fldn, E_mnx, E_mkf, E_mki, List.getElem_cons_zero, List.getElem_cons_succ, and_true, true_and, decide_true, decide_false, Bool.not_true, Bool.not_false, WP_seq, WP_ops, WP_ite, WP_block, WP_skip, WP_ret, WP_exit, exThen_normal, exThen_exit, exThen_ret, exBlock_normal, exBlock_exit, exBlock_ret, W_nil, W_cons, W_consG, I.at, atL, atO, atP, put_some, put_none, ev_t, ev_c, evp, evs, upd_apply, ↓reduceIte, Nat.reduceEqDiff, reduceCtorEq, Value.bool.injEq, Bool.false_eq_true, Bool.true_eq_false, iteW_true, iteW_false, X_mov, X_pick, X_add, X_sub, X_mul, X_and, X_or, X_xor, X_andNot, X_eql, X_neq, X_lss, X_leq, X_gtr, X_geq, X_eqb, X_eqp, X_not, X_neg, X_cnv, X_ext, X_nil, X_nilF, X_fad, X_fld, X_fldn, X_mnx, X_mkf, X_mki, getK_0, bff, btf, Option.isNone_some, Option.isNone_none, getK_succ, endQ_ret, endQ_normal, retV, resK_0, resK_t, resK_ce, resK_cn, initT_eq, List.getD_cons_zero, List.getD_cons_succ]
  refine WP_dops ?_
  have y0 := hr.drew.seesN (n := 2) rfl Try.prog
  have y1 : Fw.sees Try.prog (.ld (.c (.pointer (some ⟨bo, 1, none⟩)))) w15.drew (.bool true) = True := hro.drew.sees (o := 1) (by simp) Try.prog
  simp only [WE_nil, WE_cons, WE_consG, okR_nil, okR_cons, okR_u, mem_u_nil, okE_nil, okE_cons, okE_u, List.mem_cons, List.not_mem_nil, or_self, List.getElem_cons_zero, List.getElem_cons_succ, or_false, false_or, false_implies, implies_true, forall_const, E_mov, E_pick, E_add, E_sub, E_mul, E_and, E_or, E_xor, E_andNot, E_eql, E_neq, E_lss, E_leq, E_gtr, E_geq, E_eqb, E_eqp, E_not, E_neg, E_cnv, E_ext, E_nil, E_nilF, E_fad, E_fld, E_fldn, E_mnx, E_mkf, E_mki, List.getElem_cons_zero, List.getElem_cons_succ, and_true, true_and, decide_true, decide_false, Bool.not_true, Bool.not_false, WP_seq, WP_ops, WP_ite, WP_block, WP_skip, WP_ret, WP_exit, exThen_normal, exThen_exit, exThen_ret, exBlock_normal, exBlock_exit, exBlock_ret, W_nil, W_cons, W_consG, I.at, atL, atO, atP, put_some, put_none, ev_t, ev_c, evp, evs, upd_apply, ↓reduceIte, Nat.reduceEqDiff, reduceCtorEq, Value.bool.injEq, Bool.false_eq_true, Bool.true_eq_false, iteW_true, iteW_false, X_mov, X_pick, X_add, X_sub, X_mul, X_and, X_or, X_xor, X_andNot, X_eql, X_neq, X_lss, X_leq, X_gtr, X_geq, X_eqb, X_eqp, X_not, X_neg, X_cnv, X_ext, X_nil, X_nilF, X_fad, X_fld, X_fldn, X_mnx, X_mkf, X_mki, getK_0, bff, btf, Option.isNone_some, Option.isNone_none, getK_succ, endQ_ret, endQ_normal, retV, resK_0, resK_t, resK_ce, resK_cn, initT_eq, List.getD_cons_zero, List.getD_cons_succ, addr_add0, Nat.zero_add, Nat.add_zero, show decide ((0 : Int) = 0) = true from rfl, hr.drew.Eldn (n := 2) rfl, hro.drew.Eld (show 1 < _ by simp)]
  refine E_call0 ((culletlaw04_Rings_derivative_w_spec w15.drew rb rw S1 _ hb.drew hw.drew hS1.drew (by simp only [List.length_map]; omega)).mono ?_)
  rw [lo16_map_em16]
  rintro D3 w16 ⟨hB, d3, hD3, ht6, hc6, hl6⟩
  have hD3 := hD3.sl
  have hB := (bel_drew w15).trans hB
  have hro := hro.up hB
  have hb := hb.up hB
  have hw := hw.up hB
  have hr := hr.up hB
  have hP := hP.up hB
  have hP2 := hP2.up hB
  have hS1 := hS1.up hB
  have hD1 := hD1.up hB
  have hS2 := hS2.up hB
  have hD2 := hD2.up hB
  have hS3 := hS3.up hB
  have B16 : RowKit.Below w.heap.size w w16 := B15.trans (hB.mono B15.size)
  clear hB B15
  simp only [WE_nil, WE_cons, WE_consG, okR_nil, okR_cons, okR_u, mem_u_nil, okE_nil, okE_cons, okE_u, List.mem_cons, List.not_mem_nil, or_self, List.getElem_cons_zero, List.getElem_cons_succ, or_false, false_or, false_implies, implies_true, forall_const, E_mov, E_pick, E_add, E_sub, E_mul, E_and, E_or, E_xor, E_andNot, E_eql, E_neq, E_lss, E_leq, E_gtr, E_geq, E_eqb, E_eqp, E_not, E_neg, E_cnv, E_ext, E_nil, E_nilF, E_fad, E_fld, E_fldn, E_mnx, E_mkf, E_mki, List.getElem_cons_zero, List.getElem_cons_succ, and_true, true_and, decide_true, decide_false, Bool.not_true, Bool.not_false, WP_seq, WP_ops, WP_ite, WP_block, WP_skip, WP_ret, WP_exit, exThen_normal, exThen_exit, exThen_ret, exBlock_normal, exBlock_exit, exBlock_ret, W_nil, W_cons, W_consG, I.at, atL, atO, atP, put_some, put_none, ev_t, ev_c, evp, evs, upd_apply, ↓reduceIte, Nat.reduceEqDiff, reduceCtorEq, Value.bool.injEq, Bool.false_eq_true, Bool.true_eq_false, iteW_true, iteW_false, X_mov, X_pick, X_add, X_sub, X_mul, X_and, X_or, X_xor, X_andNot, X_eql, X_neq, X_lss, X_leq, X_gtr, X_geq, X_eqb, X_eqp, X_not, X_neg, X_cnv, X_ext, X_nil, X_nilF, X_fad, X_fld, X_fldn, X_mnx, X_mkf, X_mki, getK_0, bff, btf, Option.isNone_some, Option.isNone_none, getK_succ, endQ_ret, endQ_normal, retV, resK_0, resK_t, resK_ce, resK_cn, initT_eq, List.getD_cons_zero, List.getD_cons_succ, addr_add0, Nat.zero_add, Nat.add_zero, y0, y1, hr.Eldn (n := 2) rfl, hro.Eld (show 1 < _ by simp)]
  refine E_call0 ((culletlaw04_Rings_add_w_spec w16 rb rw S2 S3 _ _ hb hw hS2 hS3 (by simp only [List.length_map]; omega) (by simp only [List.length_map]; omega)).mono ?_)
  rw [lo16_map_em16, lo16_map_em16]
  rintro S4 w17 ⟨hB, m4, hS4, ht7, hc7, hl7⟩
  have hS4 := hS4.sl
  have hD3 := hD3.up hB
  have B17 : RowKit.Below w.heap.size w w17 := B16.trans (hB.mono B16.size)
  clear hB B16
  simp only [WE_nil, WE_cons, WE_consG, okR_nil, okR_cons, okR_u, mem_u_nil, okE_nil, okE_cons, okE_u, List.mem_cons, List.not_mem_nil, or_self, List.getElem_cons_zero, List.getElem_cons_succ, or_false, false_or, false_implies, implies_true, forall_const, E_mov, E_pick, E_add, E_sub, E_mul, E_and, E_or, E_xor, E_andNot, E_eql, E_neq, E_lss, E_leq, E_gtr, E_geq, E_eqb, E_eqp, E_not, E_neg, E_cnv, E_ext, E_nil, E_nilF, E_fad, E_fld, E_fldn, E_mnx, E_mkf, E_mki, List.getElem_cons_zero, List.getElem_cons_succ, and_true, true_and, decide_true, decide_false, Bool.not_true, Bool.not_false, WP_seq, WP_ops, WP_ite, WP_block, WP_skip, WP_ret, WP_exit, exThen_normal, exThen_exit, exThen_ret, exBlock_normal, exBlock_exit, exBlock_ret, W_nil, W_cons, W_consG, I.at, atL, atO, atP, put_some, put_none, ev_t, ev_c, evp, evs, upd_apply, ↓reduceIte, Nat.reduceEqDiff, reduceCtorEq, Value.bool.injEq, Bool.false_eq_true, Bool.true_eq_false, iteW_true, iteW_false, X_mov, X_pick, X_add, X_sub, X_mul, X_and, X_or, X_xor, X_andNot, X_eql, X_neq, X_lss, X_leq, X_gtr, X_geq, X_eqb, X_eqp, X_not, X_neg, X_cnv, X_ext, X_nil, X_nilF, X_fad, X_fld, X_fldn, X_mnx, X_mkf, X_mki, getK_0, bff, btf, Option.isNone_some, Option.isNone_none, getK_succ, endQ_ret, endQ_normal, retV, resK_0, resK_t, resK_ce, resK_cn, initT_eq, List.getD_cons_zero, List.getD_cons_succ]
  refine E_call0 ((culletlaw04_same_spec w17 D3 S4 _ _ hD3 hS4 (by simp only [List.length_map]; omega) (by simp only [List.length_map]; omega)).mono ?_)
  rintro _ w18 ⟨rfl, hk⟩
  have hB := hk.1
  clear hk
  have B18 : RowKit.Below w.heap.size w w18 := B17.trans (hB.mono B17.size)
  clear hB B17
  have : d3 = m4 := tr_inj ht6 ht7 (by rw [hc6, hc7, hc1, hc3, hc5, hc2, hc4, Ps.D_mul])
  simp only [WE_nil, WE_cons, WE_consG, okR_nil, okR_cons, okR_u, mem_u_nil, okE_nil, okE_cons, okE_u, List.mem_cons, List.not_mem_nil, or_self, List.getElem_cons_zero, List.getElem_cons_succ, or_false, false_or, false_implies, implies_true, forall_const, E_mov, E_pick, E_add, E_sub, E_mul, E_and, E_or, E_xor, E_andNot, E_eql, E_neq, E_lss, E_leq, E_gtr, E_geq, E_eqb, E_eqp, E_not, E_neg, E_cnv, E_ext, E_nil, E_nilF, E_fad, E_fld, E_fldn, E_mnx, E_mkf, E_mki, List.getElem_cons_zero, List.getElem_cons_succ, and_true, true_and, decide_true, decide_false, Bool.not_true, Bool.not_false, WP_seq, WP_ops, WP_ite, WP_block, WP_skip, WP_ret, WP_exit, exThen_normal, exThen_exit, exThen_ret, exBlock_normal, exBlock_exit, exBlock_ret, W_nil, W_cons, W_consG, I.at, atL, atO, atP, put_some, put_none, ev_t, ev_c, evp, evs, upd_apply, ↓reduceIte, Nat.reduceEqDiff, reduceCtorEq, Value.bool.injEq, Bool.false_eq_true, Bool.true_eq_false, iteW_true, iteW_false, X_mov, X_pick, X_add, X_sub, X_mul, X_and, X_or, X_xor, X_andNot, X_eql, X_neq, X_lss, X_leq, X_gtr, X_geq, X_eqb, X_eqp, X_not, X_neg, X_cnv, X_ext, X_nil, X_nilF, X_fad, X_fld, X_fldn, X_mnx, X_mkf, X_mki, getK_0, bff, btf, Option.isNone_some, Option.isNone_none, getK_succ, endQ_ret, endQ_normal, retV, resK_0, resK_t, resK_ce, resK_cn, initT_eq, List.getD_cons_zero, List.getD_cons_succ, this]
  exact B18
end Go.Proofs.Ytcdagkcchfibjaa.Fw

namespace Go.Proofs.Ytcdagkcchfibjaa.Fw
open Go Go.Fw
theorem lb_b (m : List (El 8)) (ht : tr m = m) (hc : co m = (co (([⟨7⟩, ⟨6⟩, ⟨5⟩, ⟨4⟩] : List (El 16)).map lo8)).D) : m.map em8 = [⟨6⟩, ⟨0⟩, ⟨4⟩] := by
  have : m = [⟨6⟩, ⟨0⟩, ⟨4⟩] := tr_inj ht (by decide +kernel) (hc.trans (ps_eq 4 (co_dg _).D ((co_dg _).mono (by decide)) (by decide +kernel)))
  rw [this]; rfl
theorem culletlaw04_PolysLeibniz_b_spec (w : World) (k n : Int) (F G : Value) (LF LG : List (El 16)) (X : El 16) (hF : Sl w F LF) (hG : Sl w G LG) (hlF : LF.length ≤ 70368744175616) (hlG : LG.length ≤ 70368744175616) :
    CallV Try.prog 6 [.agg #[.int .i64 k, .bool false, F, G, .int .u16 (X.v.toNat : Int), .int .i64 n]] w fun v w' => v = .bool true ∧ RowKit.Below w.heap.size w w' := by
  refine run_culletlaw04_PolysLeibniz (by simp) ?_
  simp only [c_culletlaw04_PolysLeibniz, List.getElem_cons_zero, List.getElem_cons_succ, and_true, true_and, decide_true, decide_false, Bool.not_true, Bool.not_false, WP_seq, WP_ops, WP_ite, WP_block, WP_skip, WP_ret, WP_exit, exThen_normal, exThen_exit, exThen_ret, exBlock_normal, exBlock_exit, exBlock_ret, W_nil, W_cons, W_consG, I.at, atL, atO, atP, put_some, put_none, ev_t, ev_c, evp, evs, upd_apply, ↓reduceIte, Nat.reduceEqDiff, reduceCtorEq, Value.bool.injEq, Bool.false_eq_true, Bool.true_eq_false, iteW_true, iteW_false, X_mov, X_pick, X_add, X_sub, X_mul, X_and, X_or, X_xor, X_andNot, X_eql, X_neq, X_lss, X_leq, X_gtr, X_geq, X_eqb, X_eqp, X_not, X_neg, X_cnv, X_ext, X_nil, X_nilF, X_fad, X_fld, X_fldn, X_mnx, X_mkf, X_mki, getK_0, bff, btf, Option.isNone_some, Option.isNone_none, getK_succ, endQ_ret, endQ_normal, retV, resK_0, resK_t, resK_ce, resK_cn, initT_eq, List.getD_cons_zero, List.getD_cons_succ]
  refine X_box fun bo w1 hro hbo hB => ?_
  have hro : Row w1 bo [.int .i64 k, .bool false, F, G, .int .u16 (X.v.toNat : Int), .int .i64 n] := hro
  have hF := hF.up hB
  have hG := hG.up hB
  have B1 : RowKit.Below w.heap.size w w1 := hB
  clear hB
  simp only [List.getElem_cons_zero, List.getElem_cons_succ, and_true, true_and, decide_true, decide_false, Bool.not_true, Bool.not_false, WP_seq, WP_ops, WP_ite, WP_block, WP_skip, WP_ret, WP_exit, exThen_normal, exThen_exit, exThen_ret, exBlock_normal, exBlock_exit, exBlock_ret, W_nil, W_cons, W_consG, I.at, atL, atO, atP, put_some, put_none, ev_t, ev_c, evp, evs, upd_apply, ↓reduceIte, Nat.reduceEqDiff, reduceCtorEq, Value.bool.injEq, Bool.false_eq_true, Bool.true_eq_false, iteW_true, iteW_false, X_mov, X_pick, X_add, X_sub, X_mul, X_and, X_or, X_xor, X_andNot, X_eql, X_neq, X_lss, X_leq, X_gtr, X_geq, X_eqb, X_eqp, X_not, X_neg, X_cnv, X_ext, X_nil, X_nilF, X_fad, X_fld, X_fldn, X_mnx, X_mkf, X_mki, getK_0, bff, btf, Option.isNone_some, Option.isNone_none, getK_succ, endQ_ret, endQ_normal, retV, resK_0, resK_t, resK_ce, resK_cn, initT_eq, List.getD_cons_zero, List.getD_cons_succ]
  refine X_call0 ((culletlaw04_both_spec w1).mono ?_)
  rintro _ w2 ⟨rb, rw, rfl, hb, hw, hB⟩
  have hF := hF.up hB
  have hG := hG.up hB
  have hro := hro.up hB
  have B2 : RowKit.Below w.heap.size w w2 := B1.trans (hB.mono B1.size)
  clear hB B1
  simp only [List.getElem_cons_zero, List.getElem_cons_succ, and_true, true_and, decide_true, decide_false, Bool.not_true, Bool.not_false, WP_seq, WP_ops, WP_ite, WP_block, WP_skip, WP_ret, WP_exit, exThen_normal, exThen_exit, exThen_ret, exBlock_normal, exBlock_exit, exBlock_ret, W_nil, W_cons, W_consG, I.at, atL, atO, atP, put_some, put_none, ev_t, ev_c, evp, evs, upd_apply, ↓reduceIte, Nat.reduceEqDiff, reduceCtorEq, Value.bool.injEq, Bool.false_eq_true, Bool.true_eq_false, iteW_true, iteW_false, X_mov, X_pick, X_add, X_sub, X_mul, X_and, X_or, X_xor, X_andNot, X_eql, X_neq, X_lss, X_leq, X_gtr, X_geq, X_eqb, X_eqp, X_not, X_neg, X_cnv, X_ext, X_nil, X_nilF, X_fad, X_fld, X_fldn, X_mnx, X_mkf, X_mki, getK_0, bff, btf, Option.isNone_some, Option.isNone_none, getK_succ, endQ_ret, endQ_normal, retV, resK_0, resK_t, resK_ce, resK_cn, initT_eq, List.getD_cons_zero, List.getD_cons_succ]
  refine X_alloc fun b3 w0 hr3 hb3 hB => ?_
  have s8 : scal rb = true := by obtain ⟨_, _, _, rfl, _⟩ := hb; rfl
  have s16 : scal rw = true := by obtain ⟨_, _, _, rfl, _⟩ := hw; rfl
  simp only [List.getElem_cons_zero, List.getElem_cons_succ, and_true, true_and, decide_true, decide_false, Bool.not_true, Bool.not_false, WP_seq, WP_ops, WP_ite, WP_block, WP_skip, WP_ret, WP_exit, exThen_normal, exThen_exit, exThen_ret, exBlock_normal, exBlock_exit, exBlock_ret, W_nil, W_cons, W_consG, I.at, atL, atO, atP, put_some, put_none, ev_t, ev_c, evp, evs, upd_apply, ↓reduceIte, Nat.reduceEqDiff, reduceCtorEq, Value.bool.injEq, Bool.false_eq_true, Bool.true_eq_false, iteW_true, iteW_false, X_mov, X_pick, X_add, X_sub, X_mul, X_and, X_or, X_xor, X_andNot, X_eql, X_neq, X_lss, X_leq, X_gtr, X_geq, X_eqb, X_eqp, X_not, X_neg, X_cnv, X_ext, X_nil, X_nilF, X_fad, X_fld, X_fldn, X_mnx, X_mkf, X_mki, getK_0, bff, btf, Option.isNone_some, Option.isNone_none, getK_succ, endQ_ret, endQ_normal, retV, resK_0, resK_t, resK_ce, resK_cn, initT_eq, List.getD_cons_zero, List.getD_cons_succ]
  refine Row.Xstn (vs := [rb, rw]) hr3 rfl (by simp [s8, s16]) (by simp) fun w3 hr hg => ?_
  have hB := Below.row hB hb3 hg
  clear hg hr3 hb3
  have hF := hF.up hB
  have hG := hG.up hB
  have hro := hro.up hB
  have hb := hb.up hB
  have hw := hw.up hB
  have B3 : RowKit.Below w.heap.size w w3 := B2.trans (hB.mono B2.size)
  clear hB B2
  simp only [List.getElem_cons_zero, List.getElem_cons_succ, and_true, true_and, decide_true, decide_false, Bool.not_true, Bool.not_false, WP_seq, WP_ops, WP_ite, WP_block, WP_skip, WP_ret, WP_exit, exThen_normal, exThen_exit, exThen_ret, exBlock_normal, exBlock_exit, exBlock_ret, W_nil, W_cons, W_consG, I.at, atL, atO, atP, put_some, put_none, ev_t, ev_c, evp, evs, upd_apply, ↓reduceIte, Nat.reduceEqDiff, reduceCtorEq, Value.bool.injEq, Bool.false_eq_true, Bool.true_eq_false, iteW_true, iteW_false, X_mov, X_pick, X_add, X_sub, X_mul, X_and, X_or, X_xor, X_andNot, X_eql, X_neq, X_lss, X_leq, X_gtr, X_geq, X_eqb, X_eqp, X_not, X_neg, X_cnv, X_ext, X_nil, X_nilF, X_fad, X_fld, X_fldn, X_mnx, X_mkf, X_mki, getK_0, bff, btf, Option.isNone_some, Option.isNone_none, getK_succ, endQ_ret, endQ_normal, retV, resK_0, resK_t, resK_ce, resK_cn, initT_eq, List.getD_cons_zero, List.getD_cons_succ, hr.Xldn (n := 2) rfl]
  refine X_call0 ((culletlaw04_awake_spec w3 rb rw hb hw).mono ?_)
  rintro _ w4 ⟨rfl, hB⟩
  have hF := hF.up hB
  have hG := hG.up hB
  have hro := hro.up hB
  have hb := hb.up hB
  have hw := hw.up hB
  have hr := hr.up hB
  have B4 : RowKit.Below w.heap.size w w4 := B3.trans (hB.mono B3.size)
  clear hB B3
  simp only [List.getElem_cons_zero, List.getElem_cons_succ, and_true, true_and, decide_true, decide_false, Bool.not_true, Bool.not_false, WP_seq, WP_ops, WP_ite, WP_block, WP_skip, WP_ret, WP_exit, exThen_normal, exThen_exit, exThen_ret, exBlock_normal, exBlock_exit, exBlock_ret, W_nil, W_cons, W_consG, I.at, atL, atO, atP, put_some, put_none, ev_t, ev_c, evp, evs, upd_apply, ↓reduceIte, Nat.reduceEqDiff, reduceCtorEq, Value.bool.injEq, Bool.false_eq_true, Bool.true_eq_false, iteW_true, iteW_false, X_mov, X_pick, X_add, X_sub, X_mul, X_and, X_or, X_xor, X_andNot, X_eql, X_neq, X_lss, X_leq, X_gtr, X_geq, X_eqb, X_eqp, X_not, X_neg, X_cnv, X_ext, X_nil, X_nilF, X_fad, X_fld, X_fldn, X_mnx, X_mkf, X_mki, getK_0, bff, btf, Option.isNone_some, Option.isNone_none, getK_succ, endQ_ret, endQ_normal, retV, resK_0, resK_t, resK_ce, resK_cn, initT_eq, List.getD_cons_zero, List.getD_cons_succ, hr.Xldn (n := 2) rfl, addr_add0, Nat.zero_add, Nat.add_zero, hro.Xld (show 1 < _ by simp)]
  refine X_bsl (zs := [(⟨7⟩ : El 16), (⟨6⟩ : El 16), (⟨5⟩ : El 16), (⟨4⟩ : El 16)]) (by rfl) (by rfl) fun c1 w5 c1o hB => ?_
  have hF := hF.up hB
  have hG := hG.up hB
  have hro := hro.up hB
  have hb := hb.up hB
  have hw := hw.up hB
  have hr := hr.up hB
  have B5 : RowKit.Below w.heap.size w w5 := B4.trans (hB.mono B4.size)
  clear hB B4
  have hc1 := c1o.sl
  simp only [List.getElem_cons_zero, List.getElem_cons_succ, and_true, true_and, decide_true, decide_false, Bool.not_true, Bool.not_false, WP_seq, WP_ops, WP_ite, WP_block, WP_skip, WP_ret, WP_exit, exThen_normal, exThen_exit, exThen_ret, exBlock_normal, exBlock_exit, exBlock_ret, W_nil, W_cons, W_consG, I.at, atL, atO, atP, put_some, put_none, ev_t, ev_c, evp, evs, upd_apply, ↓reduceIte, Nat.reduceEqDiff, reduceCtorEq, Value.bool.injEq, Bool.false_eq_true, Bool.true_eq_false, iteW_true, iteW_false, X_mov, X_pick, X_add, X_sub, X_mul, X_and, X_or, X_xor, X_andNot, X_eql, X_neq, X_lss, X_leq, X_gtr, X_geq, X_eqb, X_eqp, X_not, X_neg, X_cnv, X_ext, X_nil, X_nilF, X_fad, X_fld, X_fldn, X_mnx, X_mkf, X_mki, getK_0, bff, btf, Option.isNone_some, Option.isNone_none, getK_succ, endQ_ret, endQ_normal, retV, resK_0, resK_t, resK_ce, resK_cn, initT_eq, List.getD_cons_zero, List.getD_cons_succ]
  refine X_call0 ((culletlaw04_Rings_derivative_b_spec w5 rb rw c1 _ hb hw hc1 (by simp)).mono ?_)
  rintro D w6 ⟨hB, m, om, ht, hc, -⟩
  rw [lb_b m ht hc] at om
  have om := om.sl
  clear ht hc
  have hF := hF.up hB
  have hG := hG.up hB
  have hro := hro.up hB
  have hb := hb.up hB
  have hw := hw.up hB
  have hr := hr.up hB
  have B6 : RowKit.Below w.heap.size w w6 := B5.trans (hB.mono B5.size)
  clear hB B5
  simp only [List.getElem_cons_zero, List.getElem_cons_succ, and_true, true_and, decide_true, decide_false, Bool.not_true, Bool.not_false, WP_seq, WP_ops, WP_ite, WP_block, WP_skip, WP_ret, WP_exit, exThen_normal, exThen_exit, exThen_ret, exBlock_normal, exBlock_exit, exBlock_ret, W_nil, W_cons, W_consG, I.at, atL, atO, atP, put_some, put_none, ev_t, ev_c, evp, evs, upd_apply, ↓reduceIte, Nat.reduceEqDiff, reduceCtorEq, Value.bool.injEq, Bool.false_eq_true, Bool.true_eq_false, iteW_true, iteW_false, X_mov, X_pick, X_add, X_sub, X_mul, X_and, X_or, X_xor, X_andNot, X_eql, X_neq, X_lss, X_leq, X_gtr, X_geq, X_eqb, X_eqp, X_not, X_neg, X_cnv, X_ext, X_nil, X_nilF, X_fad, X_fld, X_fldn, X_mnx, X_mkf, X_mki, getK_0, bff, btf, Option.isNone_some, Option.isNone_none, getK_succ, endQ_ret, endQ_normal, retV, resK_0, resK_t, resK_ce, resK_cn, initT_eq, List.getD_cons_zero, List.getD_cons_succ]
  refine X_bsl (zs := [(⟨6⟩ : El 16), (⟨0⟩ : El 16), (⟨4⟩ : El 16)]) (by rfl) (by rfl) fun c2 w7 c2o hB => ?_
  have hF := hF.up hB
  have hG := hG.up hB
  have hro := hro.up hB
  have hb := hb.up hB
  have hw := hw.up hB
  have hr := hr.up hB
  have om := om.up hB
  have B7 : RowKit.Below w.heap.size w w7 := B6.trans (hB.mono B6.size)
  clear hB B6
  have hc2 := c2o.sl
  simp only [List.getElem_cons_zero, List.getElem_cons_succ, and_true, true_and, decide_true, decide_false, Bool.not_true, Bool.not_false, WP_seq, WP_ops, WP_ite, WP_block, WP_skip, WP_ret, WP_exit, exThen_normal, exThen_exit, exThen_ret, exBlock_normal, exBlock_exit, exBlock_ret, W_nil, W_cons, W_consG, I.at, atL, atO, atP, put_some, put_none, ev_t, ev_c, evp, evs, upd_apply, ↓reduceIte, Nat.reduceEqDiff, reduceCtorEq, Value.bool.injEq, Bool.false_eq_true, Bool.true_eq_false, iteW_true, iteW_false, X_mov, X_pick, X_add, X_sub, X_mul, X_and, X_or, X_xor, X_andNot, X_eql, X_neq, X_lss, X_leq, X_gtr, X_geq, X_eqb, X_eqp, X_not, X_neg, X_cnv, X_ext, X_nil, X_nilF, X_fad, X_fld, X_fldn, X_mnx, X_mkf, X_mki, getK_0, bff, btf, Option.isNone_some, Option.isNone_none, getK_succ, endQ_ret, endQ_normal, retV, resK_0, resK_t, resK_ce, resK_cn, initT_eq, List.getD_cons_zero, List.getD_cons_succ]
  refine X_call0 ((culletlaw04_same_spec w7 D c2 _ _ om hc2 (by simp) (by simp)).mono ?_)
  rintro _ w8 ⟨rfl, hk⟩
  have hB := hk.1
  clear hk
  have hF := hF.up hB
  have hG := hG.up hB
  have hro := hro.up hB
  have hb := hb.up hB
  have hw := hw.up hB
  have hr := hr.up hB
  have B8 : RowKit.Below w.heap.size w w8 := B7.trans (hB.mono B7.size)
  clear hB B7
  simp only [List.getElem_cons_zero, List.getElem_cons_succ, and_true, true_and, decide_true, decide_false, Bool.not_true, Bool.not_false, WP_seq, WP_ops, WP_ite, WP_block, WP_skip, WP_ret, WP_exit, exThen_normal, exThen_exit, exThen_ret, exBlock_normal, exBlock_exit, exBlock_ret, W_nil, W_cons, W_consG, I.at, atL, atO, atP, put_some, put_none, ev_t, ev_c, evp, evs, upd_apply, ↓reduceIte, Nat.reduceEqDiff, reduceCtorEq, Value.bool.injEq, Bool.false_eq_true, Bool.true_eq_false, iteW_true, iteW_false, X_mov, X_pick, X_add, X_sub, X_mul, X_and, X_or, X_xor, X_andNot, X_eql, X_neq, X_lss, X_leq, X_gtr, X_geq, X_eqb, X_eqp, X_not, X_neg, X_cnv, X_ext, X_nil, X_nilF, X_fad, X_fld, X_fldn, X_mnx, X_mkf, X_mki, getK_0, bff, btf, Option.isNone_some, Option.isNone_none, getK_succ, endQ_ret, endQ_normal, retV, resK_0, resK_t, resK_ce, resK_cn, initT_eq, List.getD_cons_zero, List.getD_cons_succ, addr_add0, Nat.zero_add, Nat.add_zero, hro.Xld (show 1 < _ by simp), hro.Xld (show 2 < _ by simp)]
  refine X_call0 ((culletlaw04_cut_b_spec w8 F LF hF hlF).mono ?_)
  rintro P w9 ⟨hP, hB⟩
  have hP := hP.sl
  have hF := hF.up hB
  have hG := hG.up hB
  have hro := hro.up hB
  have hb := hb.up hB
  have hw := hw.up hB
  have hr := hr.up hB
  have B9 : RowKit.Below w.heap.size w w9 := B8.trans (hB.mono B8.size)
  clear hB B8
  generalize hqQ : LF.map lo8 = Q at hP
  have lP : (Q.map em8).length = Q.length := List.length_map _
  have bQ : Q.length ≤ 70368744175616 := by rw [← hqQ, List.length_map]; exact hlF
  simp only [List.getElem_cons_zero, List.getElem_cons_succ, and_true, true_and, decide_true, decide_false, Bool.not_true, Bool.not_false, WP_seq, WP_ops, WP_ite, WP_block, WP_skip, WP_ret, WP_exit, exThen_normal, exThen_exit, exThen_ret, exBlock_normal, exBlock_exit, exBlock_ret, W_nil, W_cons, W_consG, I.at, atL, atO, atP, put_some, put_none, ev_t, ev_c, evp, evs, upd_apply, ↓reduceIte, Nat.reduceEqDiff, reduceCtorEq, Value.bool.injEq, Bool.false_eq_true, Bool.true_eq_false, iteW_true, iteW_false, X_mov, X_pick, X_add, X_sub, X_mul, X_and, X_or, X_xor, X_andNot, X_eql, X_neq, X_lss, X_leq, X_gtr, X_geq, X_eqb, X_eqp, X_not, X_neg, X_cnv, X_ext, X_nil, X_nilF, X_fad, X_fld, X_fldn, X_mnx, X_mkf, X_mki, getK_0, bff, btf, Option.isNone_some, Option.isNone_none, getK_succ, endQ_ret, endQ_normal, retV, resK_0, resK_t, resK_ce, resK_cn, initT_eq, List.getD_cons_zero, List.getD_cons_succ, addr_add0, Nat.zero_add, Nat.add_zero, hro.Xld (show 1 < _ by simp), hro.Xld (show 3 < _ by simp)]
  refine X_call0 ((culletlaw04_cut_b_spec w9 G LG hG hlG).mono ?_)
  rintro P2 w10 ⟨hP2, hB⟩
  have hP2 := hP2.sl
  have hG := hG.up hB
  have hro := hro.up hB
  have hb := hb.up hB
  have hw := hw.up hB
  have hr := hr.up hB
  have hP := hP.up hB
  have B10 : RowKit.Below w.heap.size w w10 := B9.trans (hB.mono B9.size)
  clear hB B9
  generalize hqQ2 : LG.map lo8 = Q2 at hP2
  have lP2 : (Q2.map em8).length = Q2.length := List.length_map _
  have bQ2 : Q2.length ≤ 70368744175616 := by rw [← hqQ2, List.length_map]; exact hlG
  simp only [List.getElem_cons_zero, List.getElem_cons_succ, and_true, true_and, decide_true, decide_false, Bool.not_true, Bool.not_false, WP_seq, WP_ops, WP_ite, WP_block, WP_skip, WP_ret, WP_exit, exThen_normal, exThen_exit, exThen_ret, exBlock_normal, exBlock_exit, exBlock_ret, W_nil, W_cons, W_consG, I.at, atL, atO, atP, put_some, put_none, ev_t, ev_c, evp, evs, upd_apply, ↓reduceIte, Nat.reduceEqDiff, reduceCtorEq, Value.bool.injEq, Bool.false_eq_true, Bool.true_eq_false, iteW_true, iteW_false, X_mov, X_pick, X_add, X_sub, X_mul, X_and, X_or, X_xor, X_andNot, X_eql, X_neq, X_lss, X_leq, X_gtr, X_geq, X_eqb, X_eqp, X_not, X_neg, X_cnv, X_ext, X_nil, X_nilF, X_fad, X_fld, X_fldn, X_mnx, X_mkf, X_mki, getK_0, bff, btf, Option.isNone_some, Option.isNone_none, getK_succ, endQ_ret, endQ_normal, retV, resK_0, resK_t, resK_ce, resK_cn, initT_eq, List.getD_cons_zero, List.getD_cons_succ, hP.Xlen, lP]
  by_cases hbig : 1024 < Q.length
  · simp only [List.getElem_cons_zero, List.getElem_cons_succ, and_true, true_and, decide_true, decide_false, Bool.not_true, Bool.not_false, WP_seq, WP_ops, WP_ite, WP_block, WP_skip, WP_ret, WP_exit, exThen_normal, exThen_exit, exThen_ret, exBlock_normal, exBlock_exit, exBlock_ret, W_nil, W_cons, W_consG, I.at, atL, atO, atP, put_some, put_none, ev_t, ev_c, evp, evs, upd_apply, ↓reduceIte, Nat.reduceEqDiff, reduceCtorEq, Value.bool.injEq, Bool.false_eq_true, Bool.true_eq_false, iteW_true, iteW_false, X_mov, X_pick, X_add, X_sub, X_mul, X_and, X_or, X_xor, X_andNot, X_eql, X_neq, X_lss, X_leq, X_gtr, X_geq, X_eqb, X_eqp, X_not, X_neg, X_cnv, X_ext, X_nil, X_nilF, X_fad, X_fld, X_fldn, X_mnx, X_mkf, X_mki, getK_0, bff, btf, Option.isNone_some, Option.isNone_none, getK_succ, endQ_ret, endQ_normal, retV, resK_0, resK_t, resK_ce, resK_cn, initT_eq, List.getD_cons_zero, List.getD_cons_succ, show decide ((1024 : Int) < (Q.length : Int)) = true from decide_eq_true (by omega)]
    exact B10
  simp only [List.getElem_cons_zero, List.getElem_cons_succ, and_true, true_and, decide_true, decide_false, Bool.not_true, Bool.not_false, WP_seq, WP_ops, WP_ite, WP_block, WP_skip, WP_ret, WP_exit, exThen_normal, exThen_exit, exThen_ret, exBlock_normal, exBlock_exit, exBlock_ret, W_nil, W_cons, W_consG, I.at, atL, atO, atP, put_some, put_none, ev_t, ev_c, evp, evs, upd_apply, ↓reduceIte, Nat.reduceEqDiff, reduceCtorEq, Value.bool.injEq, Bool.false_eq_true, Bool.true_eq_false, iteW_true, iteW_false, X_mov, X_pick, X_add, X_sub, X_mul, X_and, X_or, X_xor, X_andNot, X_eql, X_neq, X_lss, X_leq, X_gtr, X_geq, X_eqb, X_eqp, X_not, X_neg, X_cnv, X_ext, X_nil, X_nilF, X_fad, X_fld, X_fldn, X_mnx, X_mkf, X_mki, getK_0, bff, btf, Option.isNone_some, Option.isNone_none, getK_succ, endQ_ret, endQ_normal, retV, resK_0, resK_t, resK_ce, resK_cn, initT_eq, List.getD_cons_zero, List.getD_cons_succ, hP2.Xlen, lP2, show decide ((1024 : Int) < (Q.length : Int)) = false from decide_eq_false (by omega)]
  by_cases hbig2 : 1024 < Q2.length
  · simp only [List.getElem_cons_zero, List.getElem_cons_succ, and_true, true_and, decide_true, decide_false, Bool.not_true, Bool.not_false, WP_seq, WP_ops, WP_ite, WP_block, WP_skip, WP_ret, WP_exit, exThen_normal, exThen_exit, exThen_ret, exBlock_normal, exBlock_exit, exBlock_ret, W_nil, W_cons, W_consG, I.at, atL, atO, atP, put_some, put_none, ev_t, ev_c, evp, evs, upd_apply, ↓reduceIte, Nat.reduceEqDiff, reduceCtorEq, Value.bool.injEq, Bool.false_eq_true, Bool.true_eq_false, iteW_true, iteW_false, X_mov, X_pick, X_add, X_sub, X_mul, X_and, X_or, X_xor, X_andNot, X_eql, X_neq, X_lss, X_leq, X_gtr, X_geq, X_eqb, X_eqp, X_not, X_neg, X_cnv, X_ext, X_nil, X_nilF, X_fad, X_fld, X_fldn, X_mnx, X_mkf, X_mki, getK_0, bff, btf, Option.isNone_some, Option.isNone_none, getK_succ, endQ_ret, endQ_normal, retV, resK_0, resK_t, resK_ce, resK_cn, initT_eq, List.getD_cons_zero, List.getD_cons_succ, show decide ((1024 : Int) < (Q2.length : Int)) = true from decide_eq_true (by omega)]
    exact B10
  simp only [List.getElem_cons_zero, List.getElem_cons_succ, and_true, true_and, decide_true, decide_false, Bool.not_true, Bool.not_false, WP_seq, WP_ops, WP_ite, WP_block, WP_skip, WP_ret, WP_exit, exThen_normal, exThen_exit, exThen_ret, exBlock_normal, exBlock_exit, exBlock_ret, W_nil, W_cons, W_consG, I.at, atL, atO, atP, put_some, put_none, ev_t, ev_c, evp, evs, upd_apply, ↓reduceIte, Nat.reduceEqDiff, reduceCtorEq, Value.bool.injEq, Bool.false_eq_true, Bool.true_eq_false, iteW_true, iteW_false, X_mov, X_pick, X_add, X_sub, X_mul, X_and, X_or, X_xor, X_andNot, X_eql, X_neq, X_lss, X_leq, X_gtr, X_geq, X_eqb, X_eqp, X_not, X_neg, X_cnv, X_ext, X_nil, X_nilF, X_fad, X_fld, X_fldn, X_mnx, X_mkf, X_mki, getK_0, bff, btf, Option.isNone_some, Option.isNone_none, getK_succ, endQ_ret, endQ_normal, retV, resK_0, resK_t, resK_ce, resK_cn, initT_eq, List.getD_cons_zero, List.getD_cons_succ, show decide ((1024 : Int) < (Q2.length : Int)) = false from decide_eq_false (by omega), hr.Xldn (n := 2) rfl, addr_add0, Nat.zero_add, Nat.add_zero, hro.Xld (show 1 < _ by simp)]
  refine X_call0 ((culletlaw04_Rings_mul_b_spec w10 rb rw P P2 _ _ hb hw hP hP2 (by simp only [List.length_map]; omega) (by simp only [List.length_map]; omega)).mono ?_)
  rw [lo8_map_em8, lo8_map_em8]
  rintro _ w11 ⟨hB, ⟨-, -, S1, m1, rfl, hS1, ht1, hc1, hl1⟩ | ⟨hn, -⟩⟩
  rotate_left
  · exact absurd ⟨by simp only [List.length_map]; omega, by simp only [List.length_map]; omega⟩ hn
  have hS1 := hS1.sl
  have hro := hro.up hB
  have hb := hb.up hB
  have hw := hw.up hB
  have hr := hr.up hB
  have hP := hP.up hB
  have hP2 := hP2.up hB
  have B11 : RowKit.Below w.heap.size w w11 := B10.trans (hB.mono B10.size)
  clear hB B10
  simp only [List.getElem_cons_zero, List.getElem_cons_succ, and_true, true_and, decide_true, decide_false, Bool.not_true, Bool.not_false, WP_seq, WP_ops, WP_ite, WP_block, WP_skip, WP_ret, WP_exit, exThen_normal, exThen_exit, exThen_ret, exBlock_normal, exBlock_exit, exBlock_ret, W_nil, W_cons, W_consG, I.at, atL, atO, atP, put_some, put_none, ev_t, ev_c, evp, evs, upd_apply, ↓reduceIte, Nat.reduceEqDiff, reduceCtorEq, Value.bool.injEq, Bool.false_eq_true, Bool.true_eq_false, iteW_true, iteW_false, X_mov, X_pick, X_add, X_sub, X_mul, X_and, X_or, X_xor, X_andNot, X_eql, X_neq, X_lss, X_leq, X_gtr, X_geq, X_eqb, X_eqp, X_not, X_neg, X_cnv, X_ext, X_nil, X_nilF, X_fad, X_fld, X_fldn, X_mnx, X_mkf, X_mki, getK_0, bff, btf, Option.isNone_some, Option.isNone_none, getK_succ, endQ_ret, endQ_normal, retV, resK_0, resK_t, resK_ce, resK_cn, initT_eq, List.getD_cons_zero, List.getD_cons_succ, show decide ((0 : Int) = 0) = true from rfl]
  refine WP_dops ?_
  simp only [WE_nil, WE_cons, WE_consG, okR_nil, okR_cons, okR_u, mem_u_nil, okE_nil, okE_cons, okE_u, List.mem_cons, List.not_mem_nil, or_self, List.getElem_cons_zero, List.getElem_cons_succ, or_false, false_or, false_implies, implies_true, forall_const, E_mov, E_pick, E_add, E_sub, E_mul, E_and, E_or, E_xor, E_andNot, E_eql, E_neq, E_lss, E_leq, E_gtr, E_geq, E_eqb, E_eqp, E_not, E_neg, E_cnv, E_ext, E_nil, E_nilF, E_fad, E_fld, E_fldn, E_mnx, E_mkf, E_mki, List.getElem_cons_zero, List.getElem_cons_succ, and_true, true_and, decide_true, decide_false, Bool.not_true, Bool.not_false, WP_seq, WP_ops, WP_ite, WP_block, WP_skip, WP_ret, WP_exit, exThen_normal, exThen_exit, exThen_ret, exBlock_normal, exBlock_exit, exBlock_ret, W_nil, W_cons, W_consG, I.at, atL, atO, atP, put_some, put_none, ev_t, ev_c, evp, evs, upd_apply, ↓reduceIte, Nat.reduceEqDiff, reduceCtorEq, Value.bool.injEq, Bool.false_eq_true, Bool.true_eq_false, iteW_true, iteW_false, X_mov, X_pick, X_add, X_sub, X_mul, X_and, X_or, X_xor, X_andNot, X_eql, X_neq, X_lss, X_leq, X_gtr, X_geq, X_eqb, X_eqp, X_not, X_neg, X_cnv, X_ext, X_nil, X_nilF, X_fad, X_fld, X_fldn, X_mnx, X_mkf, X_mki, getK_0, bff, btf, Option.isNone_some, Option.isNone_none, getK_succ, endQ_ret, endQ_normal, retV, resK_0, resK_t, resK_ce, resK_cn, initT_eq, List.getD_cons_zero, List.getD_cons_succ, addr_add0, Nat.zero_add, Nat.add_zero, hr.drew.Eldn (n := 2) rfl, hro.drew.Eld (show 1 < _ by simp)]
  refine E_call0 ((culletlaw04_Rings_derivative_b_spec w11.drew rb rw P _ hb.drew hw.drew hP.drew (by simp only [List.length_map]; omega)).mono ?_)
  rw [lo8_map_em8]
  rintro D1 w12 ⟨hB, d1, hD1, ht2, hc2, hl2⟩
  have hD1 := hD1.sl
  have hB := (bel_drew w11).trans hB
  have hro := hro.up hB
  have hb := hb.up hB
  have hw := hw.up hB
  have hr := hr.up hB
  have hP := hP.up hB
  have hP2 := hP2.up hB
  have hS1 := hS1.up hB
  have B12 : RowKit.Below w.heap.size w w12 := B11.trans (hB.mono B11.size)
  clear hB B11
  have zo : Fw.sees Try.prog (.ld (.c (.pointer (some ⟨bo, 1, none⟩)))) w12 (.bool false) = True := hro.sees (o := 1) (by simp) Try.prog
  simp only [WE_nil, WE_cons, WE_consG, okR_nil, okR_cons, okR_u, mem_u_nil, okE_nil, okE_cons, okE_u, List.mem_cons, List.not_mem_nil, or_self, List.getElem_cons_zero, List.getElem_cons_succ, or_false, false_or, false_implies, implies_true, forall_const, E_mov, E_pick, E_add, E_sub, E_mul, E_and, E_or, E_xor, E_andNot, E_eql, E_neq, E_lss, E_leq, E_gtr, E_geq, E_eqb, E_eqp, E_not, E_neg, E_cnv, E_ext, E_nil, E_nilF, E_fad, E_fld, E_fldn, E_mnx, E_mkf, E_mki, List.getElem_cons_zero, List.getElem_cons_succ, and_true, true_and, decide_true, decide_false, Bool.not_true, Bool.not_false, WP_seq, WP_ops, WP_ite, WP_block, WP_skip, WP_ret, WP_exit, exThen_normal, exThen_exit, exThen_ret, exBlock_normal, exBlock_exit, exBlock_ret, W_nil, W_cons, W_consG, I.at, atL, atO, atP, put_some, put_none, ev_t, ev_c, evp, evs, upd_apply, ↓reduceIte, Nat.reduceEqDiff, reduceCtorEq, Value.bool.injEq, Bool.false_eq_true, Bool.true_eq_false, iteW_true, iteW_false, X_mov, X_pick, X_add, X_sub, X_mul, X_and, X_or, X_xor, X_andNot, X_eql, X_neq, X_lss, X_leq, X_gtr, X_geq, X_eqb, X_eqp, X_not, X_neg, X_cnv, X_ext, X_nil, X_nilF, X_fad, X_fld, X_fldn, X_mnx, X_mkf, X_mki, getK_0, bff, btf, Option.isNone_some, Option.isNone_none, getK_succ, endQ_ret, endQ_normal, retV, resK_0, resK_t, resK_ce, resK_cn, initT_eq, List.getD_cons_zero, List.getD_cons_succ, hr.seesN (n := 2) rfl, zo]
  refine E_call0 ((culletlaw04_Rings_mul_b_spec w12 rb rw D1 P2 _ _ hb hw hD1 hP2 (by simp only [List.length_map]; omega) (by simp only [List.length_map]; omega)).mono ?_)
  rw [lo8_map_em8, lo8_map_em8]
  rintro _ w13 ⟨hB, ⟨-, -, S2, m2, rfl, hS2, ht3, hc3, hl3⟩ | ⟨hn, -⟩⟩
  rotate_left
  · exact absurd ⟨by simp only [List.length_map]; omega, by simp only [List.length_map]; omega⟩ hn
  have hS2 := hS2.sl
  have hro := hro.up hB
  have hb := hb.up hB
  have hw := hw.up hB
  have hr := hr.up hB
  have hP := hP.up hB
  have hP2 := hP2.up hB
  have hS1 := hS1.up hB
  have hD1 := hD1.up hB
  have B13 : RowKit.Below w.heap.size w w13 := B12.trans (hB.mono B12.size)
  clear hB B12
  simp only [WE_nil, WE_cons, WE_consG, okR_nil, okR_cons, okR_u, mem_u_nil, okE_nil, okE_cons, okE_u, List.mem_cons, List.not_mem_nil, or_self, List.getElem_cons_zero, List.getElem_cons_succ, or_false, false_or, false_implies, implies_true, forall_const, E_mov, E_pick, E_add, E_sub, E_mul, E_and, E_or, E_xor, E_andNot, E_eql, E_neq, E_lss, E_leq, E_gtr, E_geq, E_eqb, E_eqp, E_not, E_neg, E_cnv, E_ext, E_nil, E_nilF, E_fad, E_fld, E_fldn, E_mnx, E_mkf, E_mki, List.getElem_cons_zero, List.getElem_cons_succ, and_true, true_and, decide_true, decide_false, Bool.not_true, Bool.not_false, WP_seq, WP_ops, WP_ite, WP_block, WP_skip, WP_ret, WP_exit, exThen_normal, exThen_exit, exThen_ret, exBlock_normal, exBlock_exit, exBlock_ret, W_nil, W_cons, W_consG, I.at, atL, atO, atP, put_some, put_none, ev_t, ev_c, evp, evs, upd_apply, ↓reduceIte, Nat.reduceEqDiff, reduceCtorEq, Value.bool.injEq, Bool.false_eq_true, Bool.true_eq_false, iteW_true, iteW_false, X_mov, X_pick, X_add, X_sub, X_mul, X_and, X_or, X_xor, X_andNot, X_eql, X_neq, X_lss, X_leq, X_gtr, X_geq, X_eqb, X_eqp, X_not, X_neg, X_cnv, X_ext, X_nil, X_nilF, X_fad, X_fld, X_fldn, X_mnx, X_mkf, X_mki, getK_0, bff, btf, Option.isNone_some, Option.isNone_none, getK_succ, endQ_ret, endQ_normal, retV, resK_0, resK_t, resK_ce, resK_cn, initT_eq, List.getD_cons_zero, List.getD_cons_succ]
  refine WP_dops ?_
  simp only [WE_nil, WE_cons, WE_consG, okR_nil, okR_cons, okR_u, mem_u_nil, okE_nil, okE_cons, okE_u, List.mem_cons, List.not_mem_nil, or_self, List.getElem_cons_zero, List.getElem_cons_succ, or_false, false_or, false_implies, implies_true, forall_const, E_mov, E_pick, E_add, E_sub, E_mul, E_and, E_or, E_xor, E_andNot, E_eql, E_neq, E_lss, E_leq, E_gtr, E_geq, E_eqb, E_eqp, E_not, E_neg, E_cnv, E_ext, E_nil, E_nilF, E_fad, E_fld, E_fldn, E_mnx, E_mkf, E_mki, List.getElem_cons_zero, List.getElem_cons_succ, and_true, true_and, decide_true, decide_false, Bool.not_true, Bool.not_false, WP_seq, WP_ops, WP_ite, WP_block, WP_skip, WP_ret, WP_exit, exThen_normal, exThen_exit, exThen_ret, exBlock_normal, exBlock_exit, exBlock_ret, W_nil, W_cons, W_consG, I.at, atL, atO, atP, put_some, put_none, ev_t, ev_c, evp, evs, upd_apply, ↓reduceIte, Nat.reduceEqDiff, reduceCtorEq, Value.bool.injEq, Bool.false_eq_true, Bool.true_eq_false, iteW_true, iteW_false, X_mov, X_pick, X_add, X_sub, X_mul, X_and, X_or, X_xor, X_andNot, X_eql, X_neq, X_lss, X_leq, X_gtr, X_geq, X_eqb, X_eqp, X_not, X_neg, X_cnv, X_ext, X_nil, X_nilF, X_fad, X_fld, X_fldn, X_mnx, X_mkf, X_mki, getK_0, bff, btf, Option.isNone_some, Option.isNone_none, getK_succ, endQ_ret, endQ_normal, retV, resK_0, resK_t, resK_ce, resK_cn, initT_eq, List.getD_cons_zero, List.getD_cons_succ, addr_add0, Nat.zero_add, Nat.add_zero, hr.drew.Eldn (n := 2) rfl, hro.drew.Eld (show 1 < _ by simp)]
  refine E_call0 ((culletlaw04_Rings_derivative_b_spec w13.drew rb rw P2 _ hb.drew hw.drew hP2.drew (by simp only [List.length_map]; omega)).mono ?_)
  rw [lo8_map_em8]
  rintro D2 w14 ⟨hB, d2, hD2, ht4, hc4, hl4⟩
  have hD2 := hD2.sl
  have hB := (bel_drew w13).trans hB
  have hro := hro.up hB
  have hb := hb.up hB
  have hw := hw.up hB
  have hr := hr.up hB
  have hP := hP.up hB
  have hP2 := hP2.up hB
  have hS1 := hS1.up hB
  have hD1 := hD1.up hB
  have hS2 := hS2.up hB
  have B14 : RowKit.Below w.heap.size w w14 := B13.trans (hB.mono B13.size)
  clear hB B13
  have zo : Fw.sees Try.prog (.ld (.c (.pointer (some ⟨bo, 1, none⟩)))) w14 (.bool false) = True := hro.sees (o := 1) (by simp) Try.prog
  simp only [WE_nil, WE_cons, WE_consG, okR_nil, okR_cons, okR_u, mem_u_nil, okE_nil, okE_cons, okE_u, List.mem_cons, List.not_mem_nil, or_self, List.getElem_cons_zero, List.getElem_cons_succ, or_false, false_or, false_implies, implies_true, forall_const, E_mov, E_pick, E_add, E_sub, E_mul, E_and, E_or, E_xor, E_andNot, E_eql, E_neq, E_lss, E_leq, E_gtr, E_geq, E_eqb, E_eqp, E_not, E_neg, E_cnv, E_ext, E_nil, E_nilF, E_fad, E_fld, E_fldn, E_mnx, E_mkf, E_mki, List.getElem_cons_zero, List.getElem_cons_succ, and_true, true_and, decide_true, decide_false, Bool.not_true, Bool.not_false, WP_seq, WP_ops, WP_ite, WP_block, WP_skip, WP_ret, WP_exit, exThen_normal, exThen_exit, exThen_ret, exBlock_normal, exBlock_exit, exBlock_ret, W_nil, W_cons, W_consG, I.at, atL, atO, atP, put_some, put_none, ev_t, ev_c, evp, evs, upd_apply, ↓reduceIte, Nat.reduceEqDiff, reduceCtorEq, Value.bool.injEq, Bool.false_eq_true, Bool.true_eq_false, iteW_true, iteW_false, X_mov, X_pick, X_add, X_sub, X_mul, X_and, X_or, X_xor, X_andNot, X_eql, X_neq, X_lss, X_leq, X_gtr, X_geq, X_eqb, X_eqp, X_not, X_neg, X_cnv, X_ext, X_nil, X_nilF, X_fad, X_fld, X_fldn, X_mnx, X_mkf, X_mki, getK_0, bff, btf, Option.isNone_some, Option.isNone_none, getK_succ, endQ_ret, endQ_normal, retV, resK_0, resK_t, resK_ce, resK_cn, initT_eq, List.getD_cons_zero, List.getD_cons_succ, hr.seesN (n := 2) rfl, zo]
  refine E_call0 ((culletlaw04_Rings_mul_b_spec w14 rb rw P D2 _ _ hb hw hP hD2 (by simp only [List.length_map]; omega) (by simp only [List.length_map]; omega)).mono ?_)
  rw [lo8_map_em8, lo8_map_em8]
  rintro _ w15 ⟨hB, ⟨-, -, S3, m3, rfl, hS3, ht5, hc5, hl5⟩ | ⟨hn, -⟩⟩
  rotate_left
  · exact absurd ⟨by simp only [List.length_map]; omega, by simp only [List.length_map]; omega⟩ hn
  have hS3 := hS3.sl
  have hro := hro.up hB
  have hb := hb.up hB
  have hw := hw.up hB
  have hr := hr.up hB
  have hP := hP.up hB
  have hP2 := hP2.up hB
  have hS1 := hS1.up hB
  have hD1 := hD1.up hB
  have hS2 := hS2.up hB
  have hD2 := hD2.up hB
  have B15 : RowKit.Below w.heap.size w w15 := B14.trans (hB.mono B14.size)
  clear hB B14
  simp only [WE_nil, WE_cons, WE_consG, okR_nil, okR_cons, okR_u, mem_u_nil, okE_nil, okE_cons, okE_u, List.mem_cons, List.not_mem_nil, or_self, List.getElem_cons_zero, List.getElem_cons_succ, or_false, false_or, false_implies, implies_true, forall_const, E_mov, E_pick, E_add, E_sub, E_mul, E_and, E_or, E_xor, E_andNot, E_eql, E_neq, E_lss, E_leq, E_gtr, E_geq, E_eqb, E_eqp, E_not, E_neg, E_cnv, E_ext, E_nil, E_nilF, E_fad, E_fld, E_fldn, E_mnx, E_mkf, E_mki, List.getElem_cons_zero, List.getElem_cons_succ, and_true, true_and, decide_true, decide_false, Bool.not_true, Bool.not_false, WP_seq, WP_ops, WP_ite, WP_block, WP_skip, WP_ret, WP_exit, exThen_normal, exThen_exit, exThen_ret, exBlock_normal, exBlock_exit, exBlock_ret, W_nil, W_cons, W_consG, I.at, atL, atO, atP, put_some, put_none, ev_t, ev_c, evp, evs, upd_apply, ↓reduceIte, Nat.reduceEqDiff, reduceCtorEq, Value.bool.injEq, Bool.false_eq_true, Bool.true_eq_false, iteW_true, iteW_false, X_mov, X_pick, X_add, X_sub, X_mul, X_and, X_or, X_xor, X_andNot, X_eql, X_neq, X_lss, X_leq, X_gtr, X_geq, X_eqb, X_eqp, X_not, X_neg, X_cnv, X_ext, X_nil, X_nilF, X_fad, X_fld, X_fldn, X_mnx, X_mkf, X_mki, getK_0, bff, btf, Option.isNone_some, Option.isNone_none, getK_succ, endQ_ret, endQ_normal, retV, resK_0, resK_t, resK_ce, resK_cn, initT_eq, List.getD_cons_zero, List.getD_cons_succ]
  refine WP_dops ?_
  have y0 := hr.drew.seesN (n := 2) rfl Try.prog
  have y1 : Fw.sees Try.prog (.ld (.c (.pointer (some ⟨bo, 1, none⟩)))) w15.drew (.bool false) = True := hro.drew.sees (o := 1) (by simp) Try.prog
  simp only [WE_nil, WE_cons, WE_consG, okR_nil, okR_cons, okR_u, mem_u_nil, okE_nil, okE_cons, okE_u, List.mem_cons, List.not_mem_nil, or_self, List.getElem_cons_zero, List.getElem_cons_succ, or_false, false_or, false_implies, implies_true, forall_const, E_mov, E_pick, E_add, E_sub, E_mul, E_and, E_or, E_xor, E_andNot, E_eql, E_neq, E_lss, E_leq, E_gtr, E_geq, E_eqb, E_eqp, E_not, E_neg, E_cnv, E_ext, E_nil, E_nilF, E_fad, E_fld, E_fldn, E_mnx, E_mkf, E_mki, List.getElem_cons_zero, List.getElem_cons_succ, and_true, true_and, decide_true, decide_false, Bool.not_true, Bool.not_false, WP_seq, WP_ops, WP_ite, WP_block, WP_skip, WP_ret, WP_exit, exThen_normal, exThen_exit, exThen_ret, exBlock_normal, exBlock_exit, exBlock_ret, W_nil, W_cons, W_consG, I.at, atL, atO, atP, put_some, put_none, ev_t, ev_c, evp, evs, upd_apply, ↓reduceIte, Nat.reduceEqDiff, reduceCtorEq, Value.bool.injEq, Bool.false_eq_true, Bool.true_eq_false, iteW_true, iteW_false, X_mov, X_pick, X_add, X_sub, X_mul, X_and, X_or, X_xor, X_andNot, X_eql, X_neq, X_lss, X_leq, X_gtr, X_geq, X_eqb, X_eqp, X_not, X_neg, X_cnv, X_ext, X_nil, X_nilF, X_fad, X_fld, X_fldn, X_mnx, X_mkf, X_mki, getK_0, bff, btf, Option.isNone_some, Option.isNone_none, getK_succ, endQ_ret, endQ_normal, retV, resK_0, resK_t, resK_ce, resK_cn, initT_eq, List.getD_cons_zero, List.getD_cons_succ, addr_add0, Nat.zero_add, Nat.add_zero, show decide ((0 : Int) = 0) = true from rfl, hr.drew.Eldn (n := 2) rfl, hro.drew.Eld (show 1 < _ by simp)]
  refine E_call0 ((culletlaw04_Rings_derivative_b_spec w15.drew rb rw S1 _ hb.drew hw.drew hS1.drew (by simp only [List.length_map]; omega)).mono ?_)
  rw [lo8_map_em8]
  rintro D3 w16 ⟨hB, d3, hD3, ht6, hc6, hl6⟩
  have hD3 := hD3.sl
  have hB := (bel_drew w15).trans hB
  have hro := hro.up hB
  have hb := hb.up hB
  have hw := hw.up hB
  have hr := hr.up hB
  have hP := hP.up hB
  have hP2 := hP2.up hB
  have hS1 := hS1.up hB
  have hD1 := hD1.up hB
  have hS2 := hS2.up hB
  have hD2 := hD2.up hB
  have hS3 := hS3.up hB
  have B16 : RowKit.Below w.heap.size w w16 := B15.trans (hB.mono B15.size)
  clear hB B15
  simp only [WE_nil, WE_cons, WE_consG, okR_nil, okR_cons, okR_u, mem_u_nil, okE_nil, okE_cons, okE_u, List.mem_cons, List.not_mem_nil, or_self, List.getElem_cons_zero, List.getElem_cons_succ, or_false, false_or, false_implies, implies_true, forall_const, E_mov, E_pick, E_add, E_sub, E_mul, E_and, E_or, E_xor, E_andNot, E_eql, E_neq, E_lss, E_leq, E_gtr, E_geq, E_eqb, E_eqp, E_not, E_neg, E_cnv, E_ext, E_nil, E_nilF, E_fad, E_fld, E_fldn, E_mnx, E_mkf, E_mki, List.getElem_cons_zero, List.getElem_cons_succ, and_true, true_and, decide_true, decide_false, Bool.not_true, Bool.not_false, WP_seq, WP_ops, WP_ite, WP_block, WP_skip, WP_ret, WP_exit, exThen_normal, exThen_exit, exThen_ret, exBlock_normal, exBlock_exit, exBlock_ret, W_nil, W_cons, W_consG, I.at, atL, atO, atP, put_some, put_none, ev_t, ev_c, evp, evs, upd_apply, ↓reduceIte, Nat.reduceEqDiff, reduceCtorEq, Value.bool.injEq, Bool.false_eq_true, Bool.true_eq_false, iteW_true, iteW_false, X_mov, X_pick, X_add, X_sub, X_mul, X_and, X_or, X_xor, X_andNot, X_eql, X_neq, X_lss, X_leq, X_gtr, X_geq, X_eqb, X_eqp, X_not, X_neg, X_cnv, X_ext, X_nil, X_nilF, X_fad, X_fld, X_fldn, X_mnx, X_mkf, X_mki, getK_0, bff, btf, Option.isNone_some, Option.isNone_none, getK_succ, endQ_ret, endQ_normal, retV, resK_0, resK_t, resK_ce, resK_cn, initT_eq, List.getD_cons_zero, List.getD_cons_succ, addr_add0, Nat.zero_add, Nat.add_zero, y0, y1, hr.Eldn (n := 2) rfl, hro.Eld (show 1 < _ by simp)]
  refine E_call0 ((culletlaw04_Rings_add_b_spec w16 rb rw S2 S3 _ _ hb hw hS2 hS3 (by simp only [List.length_map]; omega) (by simp only [List.length_map]; omega)).mono ?_)
  rw [lo8_map_em8, lo8_map_em8]
  rintro S4 w17 ⟨hB, m4, hS4, ht7, hc7, hl7⟩
  have hS4 := hS4.sl
  have hD3 := hD3.up hB
  have B17 : RowKit.Below w.heap.size w w17 := B16.trans (hB.mono B16.size)
  clear hB B16
  simp only [WE_nil, WE_cons, WE_consG, okR_nil, okR_cons, okR_u, mem_u_nil, okE_nil, okE_cons, okE_u, List.mem_cons, List.not_mem_nil, or_self, List.getElem_cons_zero, List.getElem_cons_succ, or_false, false_or, false_implies, implies_true, forall_const, E_mov, E_pick, E_add, E_sub, E_mul, E_and, E_or, E_xor, E_andNot, E_eql, E_neq, E_lss, E_leq, E_gtr, E_geq, E_eqb, E_eqp, E_not, E_neg, E_cnv, E_ext, E_nil, E_nilF, E_fad, E_fld, E_fldn, E_mnx, E_mkf, E_mki, List.getElem_cons_zero, List.getElem_cons_succ, and_true, true_and, decide_true, decide_false, Bool.not_true, Bool.not_false, WP_seq, WP_ops, WP_ite, WP_block, WP_skip, WP_ret, WP_exit, exThen_normal, exThen_exit, exThen_ret, exBlock_normal, exBlock_exit, exBlock_ret, W_nil, W_cons, W_consG, I.at, atL, atO, atP, put_some, put_none, ev_t, ev_c, evp, evs, upd_apply, ↓reduceIte, Nat.reduceEqDiff, reduceCtorEq, Value.bool.injEq, Bool.false_eq_true, Bool.true_eq_false, iteW_true, iteW_false, X_mov, X_pick, X_add, X_sub, X_mul, X_and, X_or, X_xor, X_andNot, X_eql, X_neq, X_lss, X_leq, X_gtr, X_geq, X_eqb, X_eqp, X_not, X_neg, X_cnv, X_ext, X_nil, X_nilF, X_fad, X_fld, X_fldn, X_mnx, X_mkf, X_mki, getK_0, bff, btf, Option.isNone_some, Option.isNone_none, getK_succ, endQ_ret, endQ_normal, retV, resK_0, resK_t, resK_ce, resK_cn, initT_eq, List.getD_cons_zero, List.getD_cons_succ]
  refine E_call0 ((culletlaw04_same_spec w17 D3 S4 _ _ hD3 hS4 (by simp only [List.length_map]; omega) (by simp only [List.length_map]; omega)).mono ?_)
  rintro _ w18 ⟨rfl, hk⟩
  have hB := hk.1
  clear hk
  have B18 : RowKit.Below w.heap.size w w18 := B17.trans (hB.mono B17.size)
  clear hB B17
  have : d3 = m4 := tr_inj ht6 ht7 (by rw [hc6, hc7, hc1, hc3, hc5, hc2, hc4, Ps.D_mul])
  simp only [WE_nil, WE_cons, WE_consG, okR_nil, okR_cons, okR_u, mem_u_nil, okE_nil, okE_cons, okE_u, List.mem_cons, List.not_mem_nil, or_self, List.getElem_cons_zero, List.getElem_cons_succ, or_false, false_or, false_implies, implies_true, forall_const, E_mov, E_pick, E_add, E_sub, E_mul, E_and, E_or, E_xor, E_andNot, E_eql, E_neq, E_lss, E_leq, E_gtr, E_geq, E_eqb, E_eqp, E_not, E_neg, E_cnv, E_ext, E_nil, E_nilF, E_fad, E_fld, E_fldn, E_mnx, E_mkf, E_mki, List.getElem_cons_zero, List.getElem_cons_succ, and_true, true_and, decide_true, decide_false, Bool.not_true, Bool.not_false, WP_seq, WP_ops, WP_ite, WP_block, WP_skip, WP_ret, WP_exit, exThen_normal, exThen_exit, exThen_ret, exBlock_normal, exBlock_exit, exBlock_ret, W_nil, W_cons, W_consG, I.at, atL, atO, atP, put_some, put_none, ev_t, ev_c, evp, evs, upd_apply, ↓reduceIte, Nat.reduceEqDiff, reduceCtorEq, Value.bool.injEq, Bool.false_eq_true, Bool.true_eq_false, iteW_true, iteW_false, X_mov, X_pick, X_add, X_sub, X_mul, X_and, X_or, X_xor, X_andNot, X_eql, X_neq, X_lss, X_leq, X_gtr, X_geq, X_eqb, X_eqp, X_not, X_neg, X_cnv, X_ext, X_nil, X_nilF, X_fad, X_fld, X_fldn, X_mnx, X_mkf, X_mki, getK_0, bff, btf, Option.isNone_some, Option.isNone_none, getK_succ, endQ_ret, endQ_normal, retV, resK_0, resK_t, resK_ce, resK_cn, initT_eq, List.getD_cons_zero, List.getD_cons_succ, this]
  exact B18
end Go.Proofs.Ytcdagkcchfibjaa.Fw
