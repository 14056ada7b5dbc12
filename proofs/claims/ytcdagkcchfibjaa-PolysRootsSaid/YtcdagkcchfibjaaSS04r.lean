import Derived.Test.YtcdagkcchfibjaaProg
import Derived.Test.YtcdagkcchfibjaaSS04z
import Derived.Test.YtcdagkcchfibjaaSS04j
import Derived.Test.YtcdagkcchfibjaaGfR
set_option linter.all false
set_option linter.unusedVariables false
set_option linter.unusedSimpArgs false
set_option maxRecDepth 100000
namespace Go.Proofs.Ytcdagkcchfibjaa.Fw
open Go Go.Fw Go.Proofs
def c_culletlaw04_PolysRoots : C := .seq (.ops [⟨0, (some 1), none, .box 33 (.t 0), []⟩, ⟨1, (some 2), none, .mov (.c (.bool false)), []⟩]) (.seq (.ops [⟨0, (some 10), none, .call (.c (.func (.func 12) #[] #[])) [], []⟩, ⟨1, (some 3), none, .alloc 25 [.pointer none, .pointer none], []⟩, ⟨2, none, none, .stn 2 (.t 3) (.t 10), []⟩]) (.seq (.seq (.ops [⟨0, (some 11), none, .ldn 2 (.t 3), []⟩, ⟨1, (some 12), none, .call (.c (.func (.func 23) #[] #[])) [.t 11], []⟩, ⟨2, (some 13), none, .un .not (.t 12), []⟩]) (.ite (.t 13) (.seq (.ops [⟨0, (some 2), none, .mov (.c (.bool false)), []⟩]) .ret) .skip)) (.seq (.ops [⟨0, (some 14), none, .fad 1 (.t 1), []⟩, ⟨1, (some 15), none, .ld (.t 14), []⟩, ⟨2, (some 16), none, .fad 2 (.t 1), []⟩, ⟨3, (some 17), none, .ld (.t 16), []⟩, ⟨4, (some 18), none, .call (.c (.func (.func 16) #[] #[])) [.t 15, .t 17], []⟩, ⟨5, (some 4), none, .mov (.t 18), []⟩]) (.seq (.ops [⟨0, (some 19), none, .fad 1 (.t 1), []⟩, ⟨1, (some 20), none, .ld (.t 19), []⟩, ⟨2, (some 21), none, .fad 4 (.t 1), []⟩, ⟨3, (some 22), none, .ld (.t 21), []⟩, ⟨4, (some 23), none, .call (.c (.func (.func 17) #[] #[])) [.t 20, .t 22], []⟩, ⟨5, (some 5), none, .mov (.t 23), []⟩]) (.seq (.ops [⟨0, (some 24), none, .ldn 2 (.t 3), []⟩, ⟨1, (some 25), none, .fad 1 (.t 1), []⟩, ⟨2, (some 26), none, .ld (.t 25), []⟩, ⟨3, (some 27), none, .mov (.t 4), []⟩, ⟨4, (some 28), none, .mov (.t 5), []⟩, ⟨5, (some 29), none, .call (.c (.func (.func 25) #[] #[])) [.t 24, .t 26, .t 27, .t 28], []⟩, ⟨6, (some 6), none, .mov (.t 29), []⟩]) (.seq (.seq (.ops [⟨0, (some 30), none, .mov (.t 6), []⟩, ⟨1, (some 31), none, .fad 1 (.t 1), []⟩, ⟨2, (some 32), none, .ld (.t 31), []⟩, ⟨3, (some 33), none, .mov (.t 4), []⟩, ⟨4, (some 34), none, .mov (.t 5), []⟩, ⟨5, (some 35), none, .call (.c (.func (.func 19) #[] #[])) [.t 32, .t 33, .t 34], []⟩, ⟨6, (some 36), none, .bin .neq (.t 30) (.t 35), []⟩]) (.ite (.t 36) (.seq (.ops [⟨0, (some 2), none, .mov (.c (.bool false)), []⟩]) .ret) .skip)) (.seq (.seq (.ops [⟨0, (some 37), none, .mov (.t 4), []⟩, ⟨1, (some 38), none, .len (.t 37), []⟩, ⟨2, (some 39), none, .bin .gtr (.t 38) (.c (.int .i64 1024)), []⟩]) (.ite (.t 39) (.seq (.ops [⟨0, (some 2), none, .mov (.c (.bool true)), []⟩]) .ret) .skip)) (.seq (.ops [⟨0, (some 41), none, .ldn 2 (.t 3), []⟩, ⟨1, (some 42), none, .fad 1 (.t 1), []⟩, ⟨2, (some 43), none, .ld (.t 42), []⟩, ⟨3, (some 44), none, .mov (.t 4), []⟩, ⟨4, (some 45), none, .mov (.t 5), []⟩, ⟨5, (some 46), none, .bsl 28 2 [.int .u16 0] [(0, (1, .t 45)), (1, (1, .c (.int .u16 1)))], []⟩, ⟨6, (some 47), none, .call (.c (.func (.func 26) #[] #[])) [.t 41, .t 43, .t 44, .t 46], []⟩, ⟨7, (some 40), none, .mov (.t 47), []⟩, ⟨8, (some 48), none, .ext (.t 40) 0, []⟩, ⟨9, (some 49), none, .ext (.t 40) 1, []⟩, ⟨10, (some 50), none, .ext (.t 40) 2, []⟩, ⟨11, (some 7), none, .mov (.t 48), []⟩, ⟨12, (some 8), none, .mov (.t 49), []⟩, ⟨13, (some 9), none, .mov (.t 50), []⟩]) (.seq (.seq (.ops [⟨0, (some 51), none, .mov (.t 6), []⟩, ⟨1, (some 52), none, .bin .eql (.t 51) (.c (.int .u16 0)), []⟩]) (.ite (.t 52) (.seq (.ops [⟨0, (some 53), none, .mov (.t 9), []⟩, ⟨1, (some 54), none, .bin .eql (.t 53) (.c (.int .i64 0)), []⟩, ⟨2, (some 55), none, .mov (.t 54), []⟩, ⟨3, (some 56), (some (55, true)), .mov (.t 8), []⟩, ⟨4, (some 57), (some (55, true)), .len (.t 56), []⟩, ⟨5, (some 58), (some (55, true)), .bin .eql (.t 57) (.c (.int .i64 0)), []⟩, ⟨6, (some 59), none, .pick (.t 55) (.t 58) (.c (.bool false)), []⟩, ⟨7, (some 2), none, .mov (.t 59), []⟩]) .ret) .skip)) (.seq (.ops [⟨0, (some 60), none, .mov (.t 9), []⟩, ⟨1, (some 61), none, .bin .eql (.t 60) (.c (.int .i64 0)), []⟩, ⟨2, (some 62), none, .mov (.t 61), []⟩, ⟨3, (some 63), (some (62, true)), .mov (.t 8), []⟩, ⟨4, (some 64), (some (62, true)), .mov (.t 6), []⟩, ⟨5, (some 65), (some (62, true)), .bsl 28 1 [.int .u16 0] [(0, (1, .t 64))], []⟩, ⟨6, (some 66), (some (62, true)), .call (.c (.func (.func 15) #[] #[])) [.t 63, .t 65], []⟩, ⟨7, (some 67), none, .pick (.t 62) (.t 66) (.c (.bool false)), []⟩, ⟨8, (some 2), none, .mov (.t 67), []⟩]) .ret))))))))))
theorem run_culletlaw04_PolysRoots {args : List Value} {w : World} {K : Value → World → Prop} (hn : args.length ≤ 68) (h : WP Try.prog c_culletlaw04_PolysRoots (endQ [.t 2] K) (initT args) w) : CallV Try.prog 7 args w K :=
  call_of follows Try.func7 (by kernel_rfl) (by kernel_rfl) hn h
end Go.Proofs.Ytcdagkcchfibjaa.Fw
namespace Go.Proofs.Ytcdagkcchfibjaa.Fw
open Go Go.Fw
theorem culletlaw04_PolysRoots_w_spec (w : World) (k n : Int) (F G : Value) (LF LG : List (El 16)) (X : El 16) (hF : Sl w F LF) (hG : Sl w G LG) (hlF : LF.length ≤ 70368744175616) (hlG : LG.length ≤ 70368744175616) :
    CallV Try.prog 7 [.agg #[.int .i64 k, .bool true, F, G, .int .u16 (X.v.toNat : Int), .int .i64 n]] w fun v w' => v = .bool true ∧ RowKit.Below w.heap.size w w' := by
  refine run_culletlaw04_PolysRoots (by simp) ?_
  simp only [c_culletlaw04_PolysRoots, List.getElem_cons_zero, List.getElem_cons_succ, and_true, true_and, decide_true, decide_false, Bool.not_true, Bool.not_false, WP_seq, WP_ops, WP_ite, WP_block, WP_skip, WP_ret, WP_exit, exThen_normal, exThen_exit, exThen_ret, exBlock_normal, exBlock_exit, exBlock_ret, W_nil, W_cons, W_consG, I.at, atL, atO, atP, put_some, put_none, ev_t, ev_c, evp, evs, upd_apply, ↓reduceIte, Nat.reduceEqDiff, reduceCtorEq, Value.bool.injEq, Bool.false_eq_true, Bool.true_eq_false, iteW_true, iteW_false, X_mov, X_pick, X_add, X_sub, X_mul, X_and, X_or, X_xor, X_andNot, X_eql, X_neq, X_lss, X_leq, X_gtr, X_geq, X_eqb, X_eqp, X_not, X_neg, X_cnv, X_ext, X_nil, X_nilF, X_fad, X_fld, X_fldn, X_mnx, X_mkf, X_mki, getK_0, bff, btf, Option.isNone_some, Option.isNone_none, getK_succ, endQ_ret, endQ_normal, retV, resK_0, resK_t, resK_ce, resK_cn, initT_eq, List.getD_cons_zero, List.getD_cons_succ]
  refine X_box fun bo w1 hro hbo hB => ?_
  have hro : Row w1 bo [.int .i64 k, .bool true, F, G, .int .u16 (X.v.toNat : Int), .int .i64 n] := hro
  have hF := hF.up hB
  have B1 : RowKit.Below w.heap.size w w1 := hB
  clear hB
  simp only [List.getElem_cons_zero, List.getElem_cons_succ, and_true, true_and, decide_true, decide_false, Bool.not_true, Bool.not_false, WP_seq, WP_ops, WP_ite, WP_block, WP_skip, WP_ret, WP_exit, exThen_normal, exThen_exit, exThen_ret, exBlock_normal, exBlock_exit, exBlock_ret, W_nil, W_cons, W_consG, I.at, atL, atO, atP, put_some, put_none, ev_t, ev_c, evp, evs, upd_apply, ↓reduceIte, Nat.reduceEqDiff, reduceCtorEq, Value.bool.injEq, Bool.false_eq_true, Bool.true_eq_false, iteW_true, iteW_false, X_mov, X_pick, X_add, X_sub, X_mul, X_and, X_or, X_xor, X_andNot, X_eql, X_neq, X_lss, X_leq, X_gtr, X_geq, X_eqb, X_eqp, X_not, X_neg, X_cnv, X_ext, X_nil, X_nilF, X_fad, X_fld, X_fldn, X_mnx, X_mkf, X_mki, getK_0, bff, btf, Option.isNone_some, Option.isNone_none, getK_succ, endQ_ret, endQ_normal, retV, resK_0, resK_t, resK_ce, resK_cn, initT_eq, List.getD_cons_zero, List.getD_cons_succ]
  refine X_call0 ((culletlaw04_both_spec w1).mono ?_)
  rintro _ w2 ⟨rb, rw, rfl, hb, hw, hB⟩
  have hF := hF.up hB
  have hro := hro.up hB
  have B2 : RowKit.Below w.heap.size w w2 := B1.trans (hB.mono B1.size)
  clear hB B1
  simp only [List.getElem_cons_zero, List.getElem_cons_succ, and_true, true_and, decide_true, decide_false, Bool.not_true, Bool.not_false, WP_seq, WP_ops, WP_ite, WP_block, WP_skip, WP_ret, WP_exit, exThen_normal, exThen_exit, exThen_ret, exBlock_normal, exBlock_exit, exBlock_ret, W_nil, W_cons, W_consG, I.at, atL, atO, atP, put_some, put_none, ev_t, ev_c, evp, evs, upd_apply, ↓reduceIte, Nat.reduceEqDiff, reduceCtorEq, Value.bool.injEq, Bool.false_eq_true, Bool.true_eq_false, iteW_true, iteW_false, X_mov, X_pick, X_add, X_sub, X_mul, X_and, X_or, X_xor, X_andNot, X_eql, X_neq, X_lss, X_leq, X_gtr, X_geq, X_eqb, X_eqp, X_not, X_neg, X_cnv, X_ext, X_nil, X_nilF, X_fad, X_fld, X_fldn, X_mnx, X_mkf, X_mki, getK_0, bff, btf, Option.isNone_some, Option.isNone_none, getK_succ, endQ_ret, endQ_normal, retV, resK_0, resK_t, resK_ce, resK_cn, initT_eq, List.getD_cons_zero, List.getD_cons_succ]
  refine X_alloc fun b3 w0 hr3 hb3 hB => ?_
  have s8 : scal rb = true := by obtain ⟨_, _, _, rfl, _⟩ := hb; rfl
  have s16 : scal rw = true := by obtain ⟨_, _, _, rfl, _⟩ := hw; rfl
  simp only [List.getElem_cons_zero, List.getElem_cons_succ, and_true, true_and, decide_true, decide_false, Bool.not_true, Bool.not_false, WP_seq, WP_ops, WP_ite, WP_block, WP_skip, WP_ret, WP_exit, exThen_normal, exThen_exit, exThen_ret, exBlock_normal, exBlock_exit, exBlock_ret, W_nil, W_cons, W_consG, I.at, atL, atO, atP, put_some, put_none, ev_t, ev_c, evp, evs, upd_apply, ↓reduceIte, Nat.reduceEqDiff, reduceCtorEq, Value.bool.injEq, Bool.false_eq_true, Bool.true_eq_false, iteW_true, iteW_false, X_mov, X_pick, X_add, X_sub, X_mul, X_and, X_or, X_xor, X_andNot, X_eql, X_neq, X_lss, X_leq, X_gtr, X_geq, X_eqb, X_eqp, X_not, X_neg, X_cnv, X_ext, X_nil, X_nilF, X_fad, X_fld, X_fldn, X_mnx, X_mkf, X_mki, getK_0, bff, btf, Option.isNone_some, Option.isNone_none, getK_succ, endQ_ret, endQ_normal, retV, resK_0, resK_t, resK_ce, resK_cn, initT_eq, List.getD_cons_zero, List.getD_cons_succ]
  refine Row.Xstn (vs := [rb, rw]) hr3 rfl (by simp [s8, s16]) (by simp) fun w3 hr hg => ?_
  have hB := Below.row hB hb3 hg
  clear hg hr3 hb3
  have hF := hF.up hB
  have hro := hro.up hB
  have hb := hb.up hB
  have hw := hw.up hB
  have B3 : RowKit.Below w.heap.size w w3 := B2.trans (hB.mono B2.size)
  clear hB B2
  simp only [List.getElem_cons_zero, List.getElem_cons_succ, and_true, true_and, decide_true, decide_false, Bool.not_true, Bool.not_false, WP_seq, WP_ops, WP_ite, WP_block, WP_skip, WP_ret, WP_exit, exThen_normal, exThen_exit, exThen_ret, exBlock_normal, exBlock_exit, exBlock_ret, W_nil, W_cons, W_consG, I.at, atL, atO, atP, put_some, put_none, ev_t, ev_c, evp, evs, upd_apply, ↓reduceIte, Nat.reduceEqDiff, reduceCtorEq, Value.bool.injEq, Bool.false_eq_true, Bool.true_eq_false, iteW_true, iteW_false, X_mov, X_pick, X_add, X_sub, X_mul, X_and, X_or, X_xor, X_andNot, X_eql, X_neq, X_lss, X_leq, X_gtr, X_geq, X_eqb, X_eqp, X_not, X_neg, X_cnv, X_ext, X_nil, X_nilF, X_fad, X_fld, X_fldn, X_mnx, X_mkf, X_mki, getK_0, bff, btf, Option.isNone_some, Option.isNone_none, getK_succ, endQ_ret, endQ_normal, retV, resK_0, resK_t, resK_ce, resK_cn, initT_eq, List.getD_cons_zero, List.getD_cons_succ, hr.Xldn (n := 2) rfl]
  refine X_call0 ((culletlaw04_awake_spec w3 rb rw hb hw).mono ?_)
  rintro _ w4 ⟨rfl, hB⟩
  have hF := hF.up hB
  have hro := hro.up hB
  have hb := hb.up hB
  have hw := hw.up hB
  have hr := hr.up hB
  have B4 : RowKit.Below w.heap.size w w4 := B3.trans (hB.mono B3.size)
  clear hB B3
  simp only [List.getElem_cons_zero, List.getElem_cons_succ, and_true, true_and, decide_true, decide_false, Bool.not_true, Bool.not_false, WP_seq, WP_ops, WP_ite, WP_block, WP_skip, WP_ret, WP_exit, exThen_normal, exThen_exit, exThen_ret, exBlock_normal, exBlock_exit, exBlock_ret, W_nil, W_cons, W_consG, I.at, atL, atO, atP, put_some, put_none, ev_t, ev_c, evp, evs, upd_apply, ↓reduceIte, Nat.reduceEqDiff, reduceCtorEq, Value.bool.injEq, Bool.false_eq_true, Bool.true_eq_false, iteW_true, iteW_false, X_mov, X_pick, X_add, X_sub, X_mul, X_and, X_or, X_xor, X_andNot, X_eql, X_neq, X_lss, X_leq, X_gtr, X_geq, X_eqb, X_eqp, X_not, X_neg, X_cnv, X_ext, X_nil, X_nilF, X_fad, X_fld, X_fldn, X_mnx, X_mkf, X_mki, getK_0, bff, btf, Option.isNone_some, Option.isNone_none, getK_succ, endQ_ret, endQ_normal, retV, resK_0, resK_t, resK_ce, resK_cn, initT_eq, List.getD_cons_zero, List.getD_cons_succ]
  simp only [List.getElem_cons_zero, List.getElem_cons_succ, and_true, true_and, decide_true, decide_false, Bool.not_true, Bool.not_false, WP_seq, WP_ops, WP_ite, WP_block, WP_skip, WP_ret, WP_exit, exThen_normal, exThen_exit, exThen_ret, exBlock_normal, exBlock_exit, exBlock_ret, W_nil, W_cons, W_consG, I.at, atL, atO, atP, put_some, put_none, ev_t, ev_c, evp, evs, upd_apply, ↓reduceIte, Nat.reduceEqDiff, reduceCtorEq, Value.bool.injEq, Bool.false_eq_true, Bool.true_eq_false, iteW_true, iteW_false, X_mov, X_pick, X_add, X_sub, X_mul, X_and, X_or, X_xor, X_andNot, X_eql, X_neq, X_lss, X_leq, X_gtr, X_geq, X_eqb, X_eqp, X_not, X_neg, X_cnv, X_ext, X_nil, X_nilF, X_fad, X_fld, X_fldn, X_mnx, X_mkf, X_mki, getK_0, bff, btf, Option.isNone_some, Option.isNone_none, getK_succ, endQ_ret, endQ_normal, retV, resK_0, resK_t, resK_ce, resK_cn, initT_eq, List.getD_cons_zero, List.getD_cons_succ, addr_add0, Nat.zero_add, Nat.add_zero, hro.Xld (show 1 < _ by simp), hro.Xld (show 2 < _ by simp)]
  refine X_call0 ((culletlaw04_cut_w_spec w4 F LF hF hlF).mono ?_)
  rintro P w5 ⟨hP, hB⟩
  have hP := hP.sl
  have hF := hF.up hB
  have hro := hro.up hB
  have hb := hb.up hB
  have hw := hw.up hB
  have hr := hr.up hB
  have B5 : RowKit.Below w.heap.size w w5 := B4.trans (hB.mono B4.size)
  clear hB B4
  generalize hqQ : LF.map lo16 = Q at hP
  have lP : (Q.map em16).length = Q.length := List.length_map _
  have bQ : Q.length ≤ 70368744175616 := by rw [← hqQ, List.length_map]; exact hlF
  simp only [List.getElem_cons_zero, List.getElem_cons_succ, and_true, true_and, decide_true, decide_false, Bool.not_true, Bool.not_false, WP_seq, WP_ops, WP_ite, WP_block, WP_skip, WP_ret, WP_exit, exThen_normal, exThen_exit, exThen_ret, exBlock_normal, exBlock_exit, exBlock_ret, W_nil, W_cons, W_consG, I.at, atL, atO, atP, put_some, put_none, ev_t, ev_c, evp, evs, upd_apply, ↓reduceIte, Nat.reduceEqDiff, reduceCtorEq, Value.bool.injEq, Bool.false_eq_true, Bool.true_eq_false, iteW_true, iteW_false, X_mov, X_pick, X_add, X_sub, X_mul, X_and, X_or, X_xor, X_andNot, X_eql, X_neq, X_lss, X_leq, X_gtr, X_geq, X_eqb, X_eqp, X_not, X_neg, X_cnv, X_ext, X_nil, X_nilF, X_fad, X_fld, X_fldn, X_mnx, X_mkf, X_mki, getK_0, bff, btf, Option.isNone_some, Option.isNone_none, getK_succ, endQ_ret, endQ_normal, retV, resK_0, resK_t, resK_ce, resK_cn, initT_eq, List.getD_cons_zero, List.getD_cons_succ, addr_add0, Nat.zero_add, Nat.add_zero, hro.Xld (show 1 < _ by simp), hro.Xld (show 4 < _ by simp)]
  refine X_call0 ((culletlaw04_one_w_spec w5 X).mono ?_)
  rintro _ w6 ⟨rfl, rfl⟩
  have B6 := B5
  generalize hx : lo16 X = x
  simp only [List.getElem_cons_zero, List.getElem_cons_succ, and_true, true_and, decide_true, decide_false, Bool.not_true, Bool.not_false, WP_seq, WP_ops, WP_ite, WP_block, WP_skip, WP_ret, WP_exit, exThen_normal, exThen_exit, exThen_ret, exBlock_normal, exBlock_exit, exBlock_ret, W_nil, W_cons, W_consG, I.at, atL, atO, atP, put_some, put_none, ev_t, ev_c, evp, evs, upd_apply, ↓reduceIte, Nat.reduceEqDiff, reduceCtorEq, Value.bool.injEq, Bool.false_eq_true, Bool.true_eq_false, iteW_true, iteW_false, X_mov, X_pick, X_add, X_sub, X_mul, X_and, X_or, X_xor, X_andNot, X_eql, X_neq, X_lss, X_leq, X_gtr, X_geq, X_eqb, X_eqp, X_not, X_neg, X_cnv, X_ext, X_nil, X_nilF, X_fad, X_fld, X_fldn, X_mnx, X_mkf, X_mki, getK_0, bff, btf, Option.isNone_some, Option.isNone_none, getK_succ, endQ_ret, endQ_normal, retV, resK_0, resK_t, resK_ce, resK_cn, initT_eq, List.getD_cons_zero, List.getD_cons_succ, hr.Xldn (n := 2) rfl, addr_add0, Nat.zero_add, Nat.add_zero, hro.Xld (show 1 < _ by simp)]
  refine X_call0 ((culletlaw04_Rings_eval_w_spec w6 rb rw P (Q.map em16) x hb hw hP (by omega)).mono ?_)
  rw [lo16_map_em16]
  rintro _ w7 ⟨hB, rfl⟩
  have hro := hro.up hB
  have hb := hb.up hB
  have hw := hw.up hB
  have hr := hr.up hB
  have hP := hP.up hB
  have B7 : RowKit.Below w.heap.size w w7 := B6.trans (hB.mono B6.size)
  clear hB B6
  simp only [List.getElem_cons_zero, List.getElem_cons_succ, and_true, true_and, decide_true, decide_false, Bool.not_true, Bool.not_false, WP_seq, WP_ops, WP_ite, WP_block, WP_skip, WP_ret, WP_exit, exThen_normal, exThen_exit, exThen_ret, exBlock_normal, exBlock_exit, exBlock_ret, W_nil, W_cons, W_consG, I.at, atL, atO, atP, put_some, put_none, ev_t, ev_c, evp, evs, upd_apply, ↓reduceIte, Nat.reduceEqDiff, reduceCtorEq, Value.bool.injEq, Bool.false_eq_true, Bool.true_eq_false, iteW_true, iteW_false, X_mov, X_pick, X_add, X_sub, X_mul, X_and, X_or, X_xor, X_andNot, X_eql, X_neq, X_lss, X_leq, X_gtr, X_geq, X_eqb, X_eqp, X_not, X_neg, X_cnv, X_ext, X_nil, X_nilF, X_fad, X_fld, X_fldn, X_mnx, X_mkf, X_mki, getK_0, bff, btf, Option.isNone_some, Option.isNone_none, getK_succ, endQ_ret, endQ_normal, retV, resK_0, resK_t, resK_ce, resK_cn, initT_eq, List.getD_cons_zero, List.getD_cons_succ, addr_add0, Nat.zero_add, Nat.add_zero, hro.Xld (show 1 < _ by simp)]
  refine X_call0 ((culletlaw04_horner_w_spec w7 P Q x hP (by omega)).mono ?_)
  rintro _ w8 ⟨rfl, hB⟩
  have hro := hro.up hB
  have hb := hb.up hB
  have hw := hw.up hB
  have hr := hr.up hB
  have hP := hP.up hB
  have B8 : RowKit.Below w.heap.size w w8 := B7.trans (hB.mono B7.size)
  clear hB B7
  generalize hv : evl Q x = v
  simp only [List.getElem_cons_zero, List.getElem_cons_succ, and_true, true_and, decide_true, decide_false, Bool.not_true, Bool.not_false, WP_seq, WP_ops, WP_ite, WP_block, WP_skip, WP_ret, WP_exit, exThen_normal, exThen_exit, exThen_ret, exBlock_normal, exBlock_exit, exBlock_ret, W_nil, W_cons, W_consG, I.at, atL, atO, atP, put_some, put_none, ev_t, ev_c, evp, evs, upd_apply, ↓reduceIte, Nat.reduceEqDiff, reduceCtorEq, Value.bool.injEq, Bool.false_eq_true, Bool.true_eq_false, iteW_true, iteW_false, X_mov, X_pick, X_add, X_sub, X_mul, X_and, X_or, X_xor, X_andNot, X_eql, X_neq, X_lss, X_leq, X_gtr, X_geq, X_eqb, X_eqp, X_not, X_neg, X_cnv, X_ext, X_nil, X_nilF, X_fad, X_fld, X_fldn, X_mnx, X_mkf, X_mki, getK_0, bff, btf, Option.isNone_some, Option.isNone_none, getK_succ, endQ_ret, endQ_normal, retV, resK_0, resK_t, resK_ce, resK_cn, initT_eq, List.getD_cons_zero, List.getD_cons_succ, hP.Xlen, lP]
  by_cases hbig : 1024 < Q.length
  · simp only [List.getElem_cons_zero, List.getElem_cons_succ, and_true, true_and, decide_true, decide_false, Bool.not_true, Bool.not_false, WP_seq, WP_ops, WP_ite, WP_block, WP_skip, WP_ret, WP_exit, exThen_normal, exThen_exit, exThen_ret, exBlock_normal, exBlock_exit, exBlock_ret, W_nil, W_cons, W_consG, I.at, atL, atO, atP, put_some, put_none, ev_t, ev_c, evp, evs, upd_apply, ↓reduceIte, Nat.reduceEqDiff, reduceCtorEq, Value.bool.injEq, Bool.false_eq_true, Bool.true_eq_false, iteW_true, iteW_false, X_mov, X_pick, X_add, X_sub, X_mul, X_and, X_or, X_xor, X_andNot, X_eql, X_neq, X_lss, X_leq, X_gtr, X_geq, X_eqb, X_eqp, X_not, X_neg, X_cnv, X_ext, X_nil, X_nilF, X_fad, X_fld, X_fldn, X_mnx, X_mkf, X_mki, getK_0, bff, btf, Option.isNone_some, Option.isNone_none, getK_succ, endQ_ret, endQ_normal, retV, resK_0, resK_t, resK_ce, resK_cn, initT_eq, List.getD_cons_zero, List.getD_cons_succ, show decide ((1024 : Int) < (Q.length : Int)) = true from decide_eq_true (by omega)]
    exact B8
  simp only [List.getElem_cons_zero, List.getElem_cons_succ, and_true, true_and, decide_true, decide_false, Bool.not_true, Bool.not_false, WP_seq, WP_ops, WP_ite, WP_block, WP_skip, WP_ret, WP_exit, exThen_normal, exThen_exit, exThen_ret, exBlock_normal, exBlock_exit, exBlock_ret, W_nil, W_cons, W_consG, I.at, atL, atO, atP, put_some, put_none, ev_t, ev_c, evp, evs, upd_apply, ↓reduceIte, Nat.reduceEqDiff, reduceCtorEq, Value.bool.injEq, Bool.false_eq_true, Bool.true_eq_false, iteW_true, iteW_false, X_mov, X_pick, X_add, X_sub, X_mul, X_and, X_or, X_xor, X_andNot, X_eql, X_neq, X_lss, X_leq, X_gtr, X_geq, X_eqb, X_eqp, X_not, X_neg, X_cnv, X_ext, X_nil, X_nilF, X_fad, X_fld, X_fldn, X_mnx, X_mkf, X_mki, getK_0, bff, btf, Option.isNone_some, Option.isNone_none, getK_succ, endQ_ret, endQ_normal, retV, resK_0, resK_t, resK_ce, resK_cn, initT_eq, List.getD_cons_zero, List.getD_cons_succ, show decide ((1024 : Int) < (Q.length : Int)) = false from decide_eq_false (by omega), hr.Xldn (n := 2) rfl, addr_add0, Nat.zero_add, Nat.add_zero, hro.Xld (show 1 < _ by simp)]
  refine X_bsl (zs := [em16 x, em16 1]) (by rfl) (by rfl) fun c1 w9 hc1 hB => ?_
  have hc1 := hc1.sl
  have hro := hro.up hB
  have hb := hb.up hB
  have hw := hw.up hB
  have hr := hr.up hB
  have hP := hP.up hB
  have B9 : RowKit.Below w.heap.size w w9 := B8.trans (hB.mono B8.size)
  clear hB B8
  simp only [List.getElem_cons_zero, List.getElem_cons_succ, and_true, true_and, decide_true, decide_false, Bool.not_true, Bool.not_false, WP_seq, WP_ops, WP_ite, WP_block, WP_skip, WP_ret, WP_exit, exThen_normal, exThen_exit, exThen_ret, exBlock_normal, exBlock_exit, exBlock_ret, W_nil, W_cons, W_consG, I.at, atL, atO, atP, put_some, put_none, ev_t, ev_c, evp, evs, upd_apply, ↓reduceIte, Nat.reduceEqDiff, reduceCtorEq, Value.bool.injEq, Bool.false_eq_true, Bool.true_eq_false, iteW_true, iteW_false, X_mov, X_pick, X_add, X_sub, X_mul, X_and, X_or, X_xor, X_andNot, X_eql, X_neq, X_lss, X_leq, X_gtr, X_geq, X_eqb, X_eqp, X_not, X_neg, X_cnv, X_ext, X_nil, X_nilF, X_fad, X_fld, X_fldn, X_mnx, X_mkf, X_mki, getK_0, bff, btf, Option.isNone_some, Option.isNone_none, getK_succ, endQ_ret, endQ_normal, retV, resK_0, resK_t, resK_ce, resK_cn, initT_eq, List.getD_cons_zero, List.getD_cons_succ]
  refine X_call0 ((culletlaw04_Rings_divMod_w_spec w9 rb rw P c1 (Q.map em16) [em16 x, em16 1] hb hw hP hc1 (by omega) (by simp)).mono ?_)
  have e2 : [em16 x, em16 1].map lo16 = [x, 1] := by simp only [List.map_cons, List.map_nil, lo16_em16]
  rw [lo16_map_em16, e2, tln_lin]
  rintro _ w10 ⟨hB, ⟨-, -, -, sq, sm, q, m, rfl, -, om, -, tm, hco, hml, -⟩ | ⟨-, -, h0, -⟩ | ⟨hn, -⟩⟩
  rotate_left
  · exact absurd h0 (by decide)
  · exact absurd ⟨by omega, by simp⟩ hn
  have om := om.sl
  rw [co_lin] at hco
  have B10 : RowKit.Below w.heap.size w w10 := B9.trans (hB.mono B9.size)
  clear hB B9
  have hev := root_rem hco
  have hm := rem_list tm hml x
  rw [← hev, hv] at hm
  by_cases hv0 : v = 0
  · rw [if_pos hv0] at hm
    subst hm
    simp only [List.getElem_cons_zero, List.getElem_cons_succ, and_true, true_and, decide_true, decide_false, Bool.not_true, Bool.not_false, WP_seq, WP_ops, WP_ite, WP_block, WP_skip, WP_ret, WP_exit, exThen_normal, exThen_exit, exThen_ret, exBlock_normal, exBlock_exit, exBlock_ret, W_nil, W_cons, W_consG, I.at, atL, atO, atP, put_some, put_none, ev_t, ev_c, evp, evs, upd_apply, ↓reduceIte, Nat.reduceEqDiff, reduceCtorEq, Value.bool.injEq, Bool.false_eq_true, Bool.true_eq_false, iteW_true, iteW_false, X_mov, X_pick, X_add, X_sub, X_mul, X_and, X_or, X_xor, X_andNot, X_eql, X_neq, X_lss, X_leq, X_gtr, X_geq, X_eqb, X_eqp, X_not, X_neg, X_cnv, X_ext, X_nil, X_nilF, X_fad, X_fld, X_fldn, X_mnx, X_mkf, X_mki, getK_0, bff, btf, Option.isNone_some, Option.isNone_none, getK_succ, endQ_ret, endQ_normal, retV, resK_0, resK_t, resK_ce, resK_cn, initT_eq, List.getD_cons_zero, List.getD_cons_succ, el_zero, em16_eq0, decide_eq_true hv0, om.Xlen, List.map_nil, List.length_nil, show decide ((0 : Int) = 0) = true from rfl, show decide (((0 : Nat) : Int) = 0) = true from rfl]
    exact B10
  rw [if_neg hv0] at hm
  subst hm
  simp only [List.getElem_cons_zero, List.getElem_cons_succ, and_true, true_and, decide_true, decide_false, Bool.not_true, Bool.not_false, WP_seq, WP_ops, WP_ite, WP_block, WP_skip, WP_ret, WP_exit, exThen_normal, exThen_exit, exThen_ret, exBlock_normal, exBlock_exit, exBlock_ret, W_nil, W_cons, W_consG, I.at, atL, atO, atP, put_some, put_none, ev_t, ev_c, evp, evs, upd_apply, ↓reduceIte, Nat.reduceEqDiff, reduceCtorEq, Value.bool.injEq, Bool.false_eq_true, Bool.true_eq_false, iteW_true, iteW_false, X_mov, X_pick, X_add, X_sub, X_mul, X_and, X_or, X_xor, X_andNot, X_eql, X_neq, X_lss, X_leq, X_gtr, X_geq, X_eqb, X_eqp, X_not, X_neg, X_cnv, X_ext, X_nil, X_nilF, X_fad, X_fld, X_fldn, X_mnx, X_mkf, X_mki, getK_0, bff, btf, Option.isNone_some, Option.isNone_none, getK_succ, endQ_ret, endQ_normal, retV, resK_0, resK_t, resK_ce, resK_cn, initT_eq, List.getD_cons_zero, List.getD_cons_succ, el_zero, em16_eq0, decide_eq_false hv0, show decide ((0 : Int) = 0) = true from rfl]
  refine X_bsl (zs := [em16 v]) (by rfl) (by rfl) fun c2 w11 hc2 hB => ?_
  have hc2 := hc2.sl
  have om := om.up hB
  have B11 : RowKit.Below w.heap.size w w11 := B10.trans (hB.mono B10.size)
  clear hB B10
  simp only [List.getElem_cons_zero, List.getElem_cons_succ, and_true, true_and, decide_true, decide_false, Bool.not_true, Bool.not_false, WP_seq, WP_ops, WP_ite, WP_block, WP_skip, WP_ret, WP_exit, exThen_normal, exThen_exit, exThen_ret, exBlock_normal, exBlock_exit, exBlock_ret, W_nil, W_cons, W_consG, I.at, atL, atO, atP, put_some, put_none, ev_t, ev_c, evp, evs, upd_apply, ↓reduceIte, Nat.reduceEqDiff, reduceCtorEq, Value.bool.injEq, Bool.false_eq_true, Bool.true_eq_false, iteW_true, iteW_false, X_mov, X_pick, X_add, X_sub, X_mul, X_and, X_or, X_xor, X_andNot, X_eql, X_neq, X_lss, X_leq, X_gtr, X_geq, X_eqb, X_eqp, X_not, X_neg, X_cnv, X_ext, X_nil, X_nilF, X_fad, X_fld, X_fldn, X_mnx, X_mkf, X_mki, getK_0, bff, btf, Option.isNone_some, Option.isNone_none, getK_succ, endQ_ret, endQ_normal, retV, resK_0, resK_t, resK_ce, resK_cn, initT_eq, List.getD_cons_zero, List.getD_cons_succ]
  refine X_call0 ((culletlaw04_same_spec w11 sm c2 _ _ om hc2 (by simp) (by simp)).mono ?_)
  rintro _ w12 ⟨rfl, hk⟩
  have hB := hk.1
  clear hk
  have B12 : RowKit.Below w.heap.size w w12 := B11.trans (hB.mono B11.size)
  clear hB B11
  simp only [List.getElem_cons_zero, List.getElem_cons_succ, and_true, true_and, decide_true, decide_false, Bool.not_true, Bool.not_false, WP_seq, WP_ops, WP_ite, WP_block, WP_skip, WP_ret, WP_exit, exThen_normal, exThen_exit, exThen_ret, exBlock_normal, exBlock_exit, exBlock_ret, W_nil, W_cons, W_consG, I.at, atL, atO, atP, put_some, put_none, ev_t, ev_c, evp, evs, upd_apply, ↓reduceIte, Nat.reduceEqDiff, reduceCtorEq, Value.bool.injEq, Bool.false_eq_true, Bool.true_eq_false, iteW_true, iteW_false, X_mov, X_pick, X_add, X_sub, X_mul, X_and, X_or, X_xor, X_andNot, X_eql, X_neq, X_lss, X_leq, X_gtr, X_geq, X_eqb, X_eqp, X_not, X_neg, X_cnv, X_ext, X_nil, X_nilF, X_fad, X_fld, X_fldn, X_mnx, X_mkf, X_mki, getK_0, bff, btf, Option.isNone_some, Option.isNone_none, getK_succ, endQ_ret, endQ_normal, retV, resK_0, resK_t, resK_ce, resK_cn, initT_eq, List.getD_cons_zero, List.getD_cons_succ, List.map_cons, List.map_nil]
  exact B12
end Go.Proofs.Ytcdagkcchfibjaa.Fw

namespace Go.Proofs.Ytcdagkcchfibjaa.Fw
open Go Go.Fw
theorem culletlaw04_PolysRoots_b_spec (w : World) (k n : Int) (F G : Value) (LF LG : List (El 16)) (X : El 16) (hF : Sl w F LF) (hG : Sl w G LG) (hlF : LF.length ≤ 70368744175616) (hlG : LG.length ≤ 70368744175616) :
    CallV Try.prog 7 [.agg #[.int .i64 k, .bool false, F, G, .int .u16 (X.v.toNat : Int), .int .i64 n]] w fun v w' => v = .bool true ∧ RowKit.Below w.heap.size w w' := by
  refine run_culletlaw04_PolysRoots (by simp) ?_
  simp only [c_culletlaw04_PolysRoots, List.getElem_cons_zero, List.getElem_cons_succ, and_true, true_and, decide_true, decide_false, Bool.not_true, Bool.not_false, WP_seq, WP_ops, WP_ite, WP_block, WP_skip, WP_ret, WP_exit, exThen_normal, exThen_exit, exThen_ret, exBlock_normal, exBlock_exit, exBlock_ret, W_nil, W_cons, W_consG, I.at, atL, atO, atP, put_some, put_none, ev_t, ev_c, evp, evs, upd_apply, ↓reduceIte, Nat.reduceEqDiff, reduceCtorEq, Value.bool.injEq, Bool.false_eq_true, Bool.true_eq_false, iteW_true, iteW_false, X_mov, X_pick, X_add, X_sub, X_mul, X_and, X_or, X_xor, X_andNot, X_eql, X_neq, X_lss, X_leq, X_gtr, X_geq, X_eqb, X_eqp, X_not, X_neg, X_cnv, X_ext, X_nil, X_nilF, X_fad, X_fld, X_fldn, X_mnx, X_mkf, X_mki, getK_0, bff, btf, Option.isNone_some, Option.isNone_none, getK_succ, endQ_ret, endQ_normal, retV, resK_0, resK_t, resK_ce, resK_cn, initT_eq, List.getD_cons_zero, List.getD_cons_succ]
  refine X_box fun bo w1 hro hbo hB => ?_
  have hro : Row w1 bo [.int .i64 k, .bool false, F, G, .int .u16 (X.v.toNat : Int), .int .i64 n] := hro
  have hF := hF.up hB
  have B1 : RowKit.Below w.heap.size w w1 := hB
  clear hB
  simp only [List.getElem_cons_zero, List.getElem_cons_succ, and_true, true_and, decide_true, decide_false, Bool.not_true, Bool.not_false, WP_seq, WP_ops, WP_ite, WP_block, WP_skip, WP_ret, WP_exit, exThen_normal, exThen_exit, exThen_ret, exBlock_normal, exBlock_exit, exBlock_ret, W_nil, W_cons, W_consG, I.at, atL, atO, atP, put_some, put_none, ev_t, ev_c, evp, evs, upd_apply, ↓reduceIte, Nat.reduceEqDiff, reduceCtorEq, Value.bool.injEq, Bool.false_eq_true, Bool.true_eq_false, iteW_true, iteW_false, X_mov, X_pick, X_add, X_sub, X_mul, X_and, X_or, X_xor, X_andNot, X_eql, X_neq, X_lss, X_leq, X_gtr, X_geq, X_eqb, X_eqp, X_not, X_neg, X_cnv, X_ext, X_nil, X_nilF, X_fad, X_fld, X_fldn, X_mnx, X_mkf, X_mki, getK_0, bff, btf, Option.isNone_some, Option.isNone_none, getK_succ, endQ_ret, endQ_normal, retV, resK_0, resK_t, resK_ce, resK_cn, initT_eq, List.getD_cons_zero, List.getD_cons_succ]
  refine X_call0 ((culletlaw04_both_spec w1).mono ?_)
  rintro _ w2 ⟨rb, rw, rfl, hb, hw, hB⟩
  have hF := hF.up hB
  have hro := hro.up hB
  have B2 : RowKit.Below w.heap.size w w2 := B1.trans (hB.mono B1.size)
  clear hB B1
  simp only [List.getElem_cons_zero, List.getElem_cons_succ, and_true, true_and, decide_true, decide_false, Bool.not_true, Bool.not_false, WP_seq, WP_ops, WP_ite, WP_block, WP_skip, WP_ret, WP_exit, exThen_normal, exThen_exit, exThen_ret, exBlock_normal, exBlock_exit, exBlock_ret, W_nil, W_cons, W_consG, I.at, atL, atO, atP, put_some, put_none, ev_t, ev_c, evp, evs, upd_apply, ↓reduceIte, Nat.reduceEqDiff, reduceCtorEq, Value.bool.injEq, Bool.false_eq_true, Bool.true_eq_false, iteW_true, iteW_false, X_mov, X_pick, X_add, X_sub, X_mul, X_and, X_or, X_xor, X_andNot, X_eql, X_neq, X_lss, X_leq, X_gtr, X_geq, X_eqb, X_eqp, X_not, X_neg, X_cnv, X_ext, X_nil, X_nilF, X_fad, X_fld, X_fldn, X_mnx, X_mkf, X_mki, getK_0, bff, btf, Option.isNone_some, Option.isNone_none, getK_succ, endQ_ret, endQ_normal, retV, resK_0, resK_t, resK_ce, resK_cn, initT_eq, List.getD_cons_zero, List.getD_cons_succ]
  refine X_alloc fun b3 w0 hr3 hb3 hB => ?_
  have s8 : scal rb = true := by obtain ⟨_, _, _, rfl, _⟩ := hb; rfl
  have s16 : scal rw = true := by obtain ⟨_, _, _, rfl, _⟩ := hw; rfl
  simp only [List.getElem_cons_zero, List.getElem_cons_succ, and_true, true_and, decide_true, decide_false, Bool.not_true, Bool.not_false, WP_seq, WP_ops, WP_ite, WP_block, WP_skip, WP_ret, WP_exit, exThen_normal, exThen_exit, exThen_ret, exBlock_normal, exBlock_exit, exBlock_ret, W_nil, W_cons, W_consG, I.at, atL, atO, atP, put_some, put_none, ev_t, ev_c, evp, evs, upd_apply, ↓reduceIte, Nat.reduceEqDiff, reduceCtorEq, Value.bool.injEq, Bool.false_eq_true, Bool.true_eq_false, iteW_true, iteW_false, X_mov, X_pick, X_add, X_sub, X_mul, X_and, X_or, X_xor, X_andNot, X_eql, X_neq, X_lss, X_leq, X_gtr, X_geq, X_eqb, X_eqp, X_not, X_neg, X_cnv, X_ext, X_nil, X_nilF, X_fad, X_fld, X_fldn, X_mnx, X_mkf, X_mki, getK_0, bff, btf, Option.isNone_some, Option.isNone_none, getK_succ, endQ_ret, endQ_normal, retV, resK_0, resK_t, resK_ce, resK_cn, initT_eq, List.getD_cons_zero, List.getD_cons_succ]
  refine Row.Xstn (vs := [rb, rw]) hr3 rfl (by simp [s8, s16]) (by simp) fun w3 hr hg => ?_
  have hB := Below.row hB hb3 hg
  clear hg hr3 hb3
  have hF := hF.up hB
  have hro := hro.up hB
  have hb := hb.up hB
  have hw := hw.up hB
  have B3 : RowKit.Below w.heap.size w w3 := B2.trans (hB.mono B2.size)
  clear hB B2
  simp only [List.getElem_cons_zero, List.getElem_cons_succ, and_true, true_and, decide_true, decide_false, Bool.not_true, Bool.not_false, WP_seq, WP_ops, WP_ite, WP_block, WP_skip, WP_ret, WP_exit, exThen_normal, exThen_exit, exThen_ret, exBlock_normal, exBlock_exit, exBlock_ret, W_nil, W_cons, W_consG, I.at, atL, atO, atP, put_some, put_none, ev_t, ev_c, evp, evs, upd_apply, ↓reduceIte, Nat.reduceEqDiff, reduceCtorEq, Value.bool.injEq, Bool.false_eq_true, Bool.true_eq_false, iteW_true, iteW_false, X_mov, X_pick, X_add, X_sub, X_mul, X_and, X_or, X_xor, X_andNot, X_eql, X_neq, X_lss, X_leq, X_gtr, X_geq, X_eqb, X_eqp, X_not, X_neg, X_cnv, X_ext, X_nil, X_nilF, X_fad, X_fld, X_fldn, X_mnx, X_mkf, X_mki, getK_0, bff, btf, Option.isNone_some, Option.isNone_none, getK_succ, endQ_ret, endQ_normal, retV, resK_0, resK_t, resK_ce, resK_cn, initT_eq, List.getD_cons_zero, List.getD_cons_succ, hr.Xldn (n := 2) rfl]
  refine X_call0 ((culletlaw04_awake_spec w3 rb rw hb hw).mono ?_)
  rintro _ w4 ⟨rfl, hB⟩
  have hF := hF.up hB
  have hro := hro.up hB
  have hb := hb.up hB
  have hw := hw.up hB
  have hr := hr.up hB
  have B4 : RowKit.Below w.heap.size w w4 := B3.trans (hB.mono B3.size)
  clear hB B3
  simp only [List.getElem_cons_zero, List.getElem_cons_succ, and_true, true_and, decide_true, decide_false, Bool.not_true, Bool.not_false, WP_seq, WP_ops, WP_ite, WP_block, WP_skip, WP_ret, WP_exit, exThen_normal, exThen_exit, exThen_ret, exBlock_normal, exBlock_exit, exBlock_ret, W_nil, W_cons, W_consG, I.at, atL, atO, atP, put_some, put_none, ev_t, ev_c, evp, evs, upd_apply, ↓reduceIte, Nat.reduceEqDiff, reduceCtorEq, Value.bool.injEq, Bool.false_eq_true, Bool.true_eq_false, iteW_true, iteW_false, X_mov, X_pick, X_add, X_sub, X_mul, X_and, X_or, X_xor, X_andNot, X_eql, X_neq, X_lss, X_leq, X_gtr, X_geq, X_eqb, X_eqp, X_not, X_neg, X_cnv, X_ext, X_nil, X_nilF, X_fad, X_fld, X_fldn, X_mnx, X_mkf, X_mki, getK_0, bff, btf, Option.isNone_some, Option.isNone_none, getK_succ, endQ_ret, endQ_normal, retV, resK_0, resK_t, resK_ce, resK_cn, initT_eq, List.getD_cons_zero, List.getD_cons_succ]
  simp only [List.getElem_cons_zero, List.getElem_cons_succ, and_true, true_and, decide_true, decide_false, Bool.not_true, Bool.not_false, WP_seq, WP_ops, WP_ite, WP_block, WP_skip, WP_ret, WP_exit, exThen_normal, exThen_exit, exThen_ret, exBlock_normal, exBlock_exit, exBlock_ret, W_nil, W_cons, W_consG, I.at, atL, atO, atP, put_some, put_none, ev_t, ev_c, evp, evs, upd_apply, ↓reduceIte, Nat.reduceEqDiff, reduceCtorEq, Value.bool.injEq, Bool.false_eq_true, Bool.true_eq_false, iteW_true, iteW_false, X_mov, X_pick, X_add, X_sub, X_mul, X_and, X_or, X_xor, X_andNot, X_eql, X_neq, X_lss, X_leq, X_gtr, X_geq, X_eqb, X_eqp, X_not, X_neg, X_cnv, X_ext, X_nil, X_nilF, X_fad, X_fld, X_fldn, X_mnx, X_mkf, X_mki, getK_0, bff, btf, Option.isNone_some, Option.isNone_none, getK_succ, endQ_ret, endQ_normal, retV, resK_0, resK_t, resK_ce, resK_cn, initT_eq, List.getD_cons_zero, List.getD_cons_succ, addr_add0, Nat.zero_add, Nat.add_zero, hro.Xld (show 1 < _ by simp), hro.Xld (show 2 < _ by simp)]
  refine X_call0 ((culletlaw04_cut_b_spec w4 F LF hF hlF).mono ?_)
  rintro P w5 ⟨hP, hB⟩
  have hP := hP.sl
  have hF := hF.up hB
  have hro := hro.up hB
  have hb := hb.up hB
  have hw := hw.up hB
  have hr := hr.up hB
  have B5 : RowKit.Below w.heap.size w w5 := B4.trans (hB.mono B4.size)
  clear hB B4
  generalize hqQ : LF.map lo8 = Q at hP
  have lP : (Q.map em8).length = Q.length := List.length_map _
  have bQ : Q.length ≤ 70368744175616 := by rw [← hqQ, List.length_map]; exact hlF
  simp only [List.getElem_cons_zero, List.getElem_cons_succ, and_true, true_and, decide_true, decide_false, Bool.not_true, Bool.not_false, WP_seq, WP_ops, WP_ite, WP_block, WP_skip, WP_ret, WP_exit, exThen_normal, exThen_exit, exThen_ret, exBlock_normal, exBlock_exit, exBlock_ret, W_nil, W_cons, W_consG, I.at, atL, atO, atP, put_some, put_none, ev_t, ev_c, evp, evs, upd_apply, ↓reduceIte, Nat.reduceEqDiff, reduceCtorEq, Value.bool.injEq, Bool.false_eq_true, Bool.true_eq_false, iteW_true, iteW_false, X_mov, X_pick, X_add, X_sub, X_mul, X_and, X_or, X_xor, X_andNot, X_eql, X_neq, X_lss, X_leq, X_gtr, X_geq, X_eqb, X_eqp, X_not, X_neg, X_cnv, X_ext, X_nil, X_nilF, X_fad, X_fld, X_fldn, X_mnx, X_mkf, X_mki, getK_0, bff, btf, Option.isNone_some, Option.isNone_none, getK_succ, endQ_ret, endQ_normal, retV, resK_0, resK_t, resK_ce, resK_cn, initT_eq, List.getD_cons_zero, List.getD_cons_succ, addr_add0, Nat.zero_add, Nat.add_zero, hro.Xld (show 1 < _ by simp), hro.Xld (show 4 < _ by simp)]
  refine X_call0 ((culletlaw04_one_b_spec w5 X).mono ?_)
  rintro _ w6 ⟨rfl, rfl⟩
  have B6 := B5
  generalize hx : lo8 X = x
  simp only [List.getElem_cons_zero, List.getElem_cons_succ, and_true, true_and, decide_true, decide_false, Bool.not_true, Bool.not_false, WP_seq, WP_ops, WP_ite, WP_block, WP_skip, WP_ret, WP_exit, exThen_normal, exThen_exit, exThen_ret, exBlock_normal, exBlock_exit, exBlock_ret, W_nil, W_cons, W_consG, I.at, atL, atO, atP, put_some, put_none, ev_t, ev_c, evp, evs, upd_apply, ↓reduceIte, Nat.reduceEqDiff, reduceCtorEq, Value.bool.injEq, Bool.false_eq_true, Bool.true_eq_false, iteW_true, iteW_false, X_mov, X_pick, X_add, X_sub, X_mul, X_and, X_or, X_xor, X_andNot, X_eql, X_neq, X_lss, X_leq, X_gtr, X_geq, X_eqb, X_eqp, X_not, X_neg, X_cnv, X_ext, X_nil, X_nilF, X_fad, X_fld, X_fldn, X_mnx, X_mkf, X_mki, getK_0, bff, btf, Option.isNone_some, Option.isNone_none, getK_succ, endQ_ret, endQ_normal, retV, resK_0, resK_t, resK_ce, resK_cn, initT_eq, List.getD_cons_zero, List.getD_cons_succ, hr.Xldn (n := 2) rfl, addr_add0, Nat.zero_add, Nat.add_zero, hro.Xld (show 1 < _ by simp)]
  refine X_call0 ((culletlaw04_Rings_eval_b_spec w6 rb rw P (Q.map em8) x hb hw hP (by omega)).mono ?_)
  rw [lo8_map_em8]
  rintro _ w7 ⟨hB, rfl⟩
  have hro := hro.up hB
  have hb := hb.up hB
  have hw := hw.up hB
  have hr := hr.up hB
  have hP := hP.up hB
  have B7 : RowKit.Below w.heap.size w w7 := B6.trans (hB.mono B6.size)
  clear hB B6
  simp only [List.getElem_cons_zero, List.getElem_cons_succ, and_true, true_and, decide_true, decide_false, Bool.not_true, Bool.not_false, WP_seq, WP_ops, WP_ite, WP_block, WP_skip, WP_ret, WP_exit, exThen_normal, exThen_exit, exThen_ret, exBlock_normal, exBlock_exit, exBlock_ret, W_nil, W_cons, W_consG, I.at, atL, atO, atP, put_some, put_none, ev_t, ev_c, evp, evs, upd_apply, ↓reduceIte, Nat.reduceEqDiff, reduceCtorEq, Value.bool.injEq, Bool.false_eq_true, Bool.true_eq_false, iteW_true, iteW_false, X_mov, X_pick, X_add, X_sub, X_mul, X_and, X_or, X_xor, X_andNot, X_eql, X_neq, X_lss, X_leq, X_gtr, X_geq, X_eqb, X_eqp, X_not, X_neg, X_cnv, X_ext, X_nil, X_nilF, X_fad, X_fld, X_fldn, X_mnx, X_mkf, X_mki, getK_0, bff, btf, Option.isNone_some, Option.isNone_none, getK_succ, endQ_ret, endQ_normal, retV, resK_0, resK_t, resK_ce, resK_cn, initT_eq, List.getD_cons_zero, List.getD_cons_succ, addr_add0, Nat.zero_add, Nat.add_zero, hro.Xld (show 1 < _ by simp)]
  refine X_call0 ((culletlaw04_horner_b_spec w7 P Q x hP (by omega)).mono ?_)
  rintro _ w8 ⟨rfl, hB⟩
  have hro := hro.up hB
  have hb := hb.up hB
  have hw := hw.up hB
  have hr := hr.up hB
  have hP := hP.up hB
  have B8 : RowKit.Below w.heap.size w w8 := B7.trans (hB.mono B7.size)
  clear hB B7
  generalize hv : evl Q x = v
  simp only [List.getElem_cons_zero, List.getElem_cons_succ, and_true, true_and, decide_true, decide_false, Bool.not_true, Bool.not_false, WP_seq, WP_ops, WP_ite, WP_block, WP_skip, WP_ret, WP_exit, exThen_normal, exThen_exit, exThen_ret, exBlock_normal, exBlock_exit, exBlock_ret, W_nil, W_cons, W_consG, I.at, atL, atO, atP, put_some, put_none, ev_t, ev_c, evp, evs, upd_apply, ↓reduceIte, Nat.reduceEqDiff, reduceCtorEq, Value.bool.injEq, Bool.false_eq_true, Bool.true_eq_false, iteW_true, iteW_false, X_mov, X_pick, X_add, X_sub, X_mul, X_and, X_or, X_xor, X_andNot, X_eql, X_neq, X_lss, X_leq, X_gtr, X_geq, X_eqb, X_eqp, X_not, X_neg, X_cnv, X_ext, X_nil, X_nilF, X_fad, X_fld, X_fldn, X_mnx, X_mkf, X_mki, getK_0, bff, btf, Option.isNone_some, Option.isNone_none, getK_succ, endQ_ret, endQ_normal, retV, resK_0, resK_t, resK_ce, resK_cn, initT_eq, List.getD_cons_zero, List.getD_cons_succ, hP.Xlen, lP]
  by_cases hbig : 1024 < Q.length
  · simp only [List.getElem_cons_zero, List.getElem_cons_succ, and_true, true_and, decide_true, decide_false, Bool.not_true, Bool.not_false, WP_seq, WP_ops, WP_ite, WP_block, WP_skip, WP_ret, WP_exit, exThen_normal, exThen_exit, exThen_ret, exBlock_normal, exBlock_exit, exBlock_ret, W_nil, W_cons, W_consG, I.at, atL, atO, atP, put_some, put_none, ev_t, ev_c, evp, evs, upd_apply, ↓reduceIte, Nat.reduceEqDiff, reduceCtorEq, Value.bool.injEq, Bool.false_eq_true, Bool.true_eq_false, iteW_true, iteW_false, X_mov, X_pick, X_add, X_sub, X_mul, X_and, X_or, X_xor, X_andNot, X_eql, X_neq, X_lss, X_leq, X_gtr, X_geq, X_eqb, X_eqp, X_not, X_neg, X_cnv, X_ext, X_nil, X_nilF, X_fad, X_fld, X_fldn, X_mnx, X_mkf, X_mki, getK_0, bff, btf, Option.isNone_some, Option.isNone_none, getK_succ, endQ_ret, endQ_normal, retV, resK_0, resK_t, resK_ce, resK_cn, initT_eq, List.getD_cons_zero, List.getD_cons_succ, show decide ((1024 : Int) < (Q.length : Int)) = true from decide_eq_true (by omega)]
    exact B8
  simp only [List.getElem_cons_zero, List.getElem_cons_succ, and_true, true_and, decide_true, decide_false, Bool.not_true, Bool.not_false, WP_seq, WP_ops, WP_ite, WP_block, WP_skip, WP_ret, WP_exit, exThen_normal, exThen_exit, exThen_ret, exBlock_normal, exBlock_exit, exBlock_ret, W_nil, W_cons, W_consG, I.at, atL, atO, atP, put_some, put_none, ev_t, ev_c, evp, evs, upd_apply, ↓reduceIte, Nat.reduceEqDiff, reduceCtorEq, Value.bool.injEq, Bool.false_eq_true, Bool.true_eq_false, iteW_true, iteW_false, X_mov, X_pick, X_add, X_sub, X_mul, X_and, X_or, X_xor, X_andNot, X_eql, X_neq, X_lss, X_leq, X_gtr, X_geq, X_eqb, X_eqp, X_not, X_neg, X_cnv, X_ext, X_nil, X_nilF, X_fad, X_fld, X_fldn, X_mnx, X_mkf, X_mki, getK_0, bff, btf, Option.isNone_some, Option.isNone_none, getK_succ, endQ_ret, endQ_normal, retV, resK_0, resK_t, resK_ce, resK_cn, initT_eq, List.getD_cons_zero, List.getD_cons_succ, show decide ((1024 : Int) < (Q.length : Int)) = false from decide_eq_false (by omega), hr.Xldn (n := 2) rfl, addr_add0, Nat.zero_add, Nat.add_zero, hro.Xld (show 1 < _ by simp)]
  refine X_bsl (zs := [em8 x, em8 1]) (by rfl) (by rfl) fun c1 w9 hc1 hB => ?_
  have hc1 := hc1.sl
  have hro := hro.up hB
  have hb := hb.up hB
  have hw := hw.up hB
  have hr := hr.up hB
  have hP := hP.up hB
  have B9 : RowKit.Below w.heap.size w w9 := B8.trans (hB.mono B8.size)
  clear hB B8
  simp only [List.getElem_cons_zero, List.getElem_cons_succ, and_true, true_and, decide_true, decide_false, Bool.not_true, Bool.not_false, WP_seq, WP_ops, WP_ite, WP_block, WP_skip, WP_ret, WP_exit, exThen_normal, exThen_exit, exThen_ret, exBlock_normal, exBlock_exit, exBlock_ret, W_nil, W_cons, W_consG, I.at, atL, atO, atP, put_some, put_none, ev_t, ev_c, evp, evs, upd_apply, ↓reduceIte, Nat.reduceEqDiff, reduceCtorEq, Value.bool.injEq, Bool.false_eq_true, Bool.true_eq_false, iteW_true, iteW_false, X_mov, X_pick, X_add, X_sub, X_mul, X_and, X_or, X_xor, X_andNot, X_eql, X_neq, X_lss, X_leq, X_gtr, X_geq, X_eqb, X_eqp, X_not, X_neg, X_cnv, X_ext, X_nil, X_nilF, X_fad, X_fld, X_fldn, X_mnx, X_mkf, X_mki, getK_0, bff, btf, Option.isNone_some, Option.isNone_none, getK_succ, endQ_ret, endQ_normal, retV, resK_0, resK_t, resK_ce, resK_cn, initT_eq, List.getD_cons_zero, List.getD_cons_succ]
  refine X_call0 ((culletlaw04_Rings_divMod_b_spec w9 rb rw P c1 (Q.map em8) [em8 x, em8 1] hb hw hP hc1 (by omega) (by simp)).mono ?_)
  have e2 : [em8 x, em8 1].map lo8 = [x, 1] := by simp only [List.map_cons, List.map_nil, lo8_em8]
  rw [lo8_map_em8, e2, tln_lin]
  rintro _ w10 ⟨hB, ⟨-, -, -, sq, sm, q, m, rfl, -, om, -, tm, hco, hml, -⟩ | ⟨-, -, h0, -⟩ | ⟨hn, -⟩⟩
  rotate_left
  · exact absurd h0 (by decide)
  · exact absurd ⟨by omega, by simp⟩ hn
  have om := om.sl
  rw [co_lin] at hco
  have B10 : RowKit.Below w.heap.size w w10 := B9.trans (hB.mono B9.size)
  clear hB B9
  have hev := root_rem hco
  have hm := rem_list tm hml x
  rw [← hev, hv] at hm
  by_cases hv0 : v = 0
  · rw [if_pos hv0] at hm
    subst hm
    simp only [List.getElem_cons_zero, List.getElem_cons_succ, and_true, true_and, decide_true, decide_false, Bool.not_true, Bool.not_false, WP_seq, WP_ops, WP_ite, WP_block, WP_skip, WP_ret, WP_exit, exThen_normal, exThen_exit, exThen_ret, exBlock_normal, exBlock_exit, exBlock_ret, W_nil, W_cons, W_consG, I.at, atL, atO, atP, put_some, put_none, ev_t, ev_c, evp, evs, upd_apply, ↓reduceIte, Nat.reduceEqDiff, reduceCtorEq, Value.bool.injEq, Bool.false_eq_true, Bool.true_eq_false, iteW_true, iteW_false, X_mov, X_pick, X_add, X_sub, X_mul, X_and, X_or, X_xor, X_andNot, X_eql, X_neq, X_lss, X_leq, X_gtr, X_geq, X_eqb, X_eqp, X_not, X_neg, X_cnv, X_ext, X_nil, X_nilF, X_fad, X_fld, X_fldn, X_mnx, X_mkf, X_mki, getK_0, bff, btf, Option.isNone_some, Option.isNone_none, getK_succ, endQ_ret, endQ_normal, retV, resK_0, resK_t, resK_ce, resK_cn, initT_eq, List.getD_cons_zero, List.getD_cons_succ, el_zero, em8_eq0, decide_eq_true hv0, om.Xlen, List.map_nil, List.length_nil, show decide ((0 : Int) = 0) = true from rfl, show decide (((0 : Nat) : Int) = 0) = true from rfl]
    exact B10
  rw [if_neg hv0] at hm
  subst hm
  simp only [List.getElem_cons_zero, List.getElem_cons_succ, and_true, true_and, decide_true, decide_false, Bool.not_true, Bool.not_false, WP_seq, WP_ops, WP_ite, WP_block, WP_skip, WP_ret, WP_exit, exThen_normal, exThen_exit, exThen_ret, exBlock_normal, exBlock_exit, exBlock_ret, W_nil, W_cons, W_consG, I.at, atL, atO, atP, put_some, put_none, ev_t, ev_c, evp, evs, upd_apply, ↓reduceIte, Nat.reduceEqDiff, reduceCtorEq, Value.bool.injEq, Bool.false_eq_true, Bool.true_eq_false, iteW_true, iteW_false, X_mov, X_pick, X_add, X_sub, X_mul, X_and, X_or, X_xor, X_andNot, X_eql, X_neq, X_lss, X_leq, X_gtr, X_geq, X_eqb, X_eqp, X_not, X_neg, X_cnv, X_ext, X_nil, X_nilF, X_fad, X_fld, X_fldn, X_mnx, X_mkf, X_mki, getK_0, bff, btf, Option.isNone_some, Option.isNone_none, getK_succ, endQ_ret, endQ_normal, retV, resK_0, resK_t, resK_ce, resK_cn, initT_eq, List.getD_cons_zero, List.getD_cons_succ, el_zero, em8_eq0, decide_eq_false hv0, show decide ((0 : Int) = 0) = true from rfl]
  refine X_bsl (zs := [em8 v]) (by rfl) (by rfl) fun c2 w11 hc2 hB => ?_
  have hc2 := hc2.sl
  have om := om.up hB
  have B11 : RowKit.Below w.heap.size w w11 := B10.trans (hB.mono B10.size)
  clear hB B10
  simp only [List.getElem_cons_zero, List.getElem_cons_succ, and_true, true_and, decide_true, decide_false, Bool.not_true, Bool.not_false, WP_seq, WP_ops, WP_ite, WP_block, WP_skip, WP_ret, WP_exit, exThen_normal, exThen_exit, exThen_ret, exBlock_normal, exBlock_exit, exBlock_ret, W_nil, W_cons, W_consG, I.at, atL, atO, atP, put_some, put_none, ev_t, ev_c, evp, evs, upd_apply, ↓reduceIte, Nat.reduceEqDiff, reduceCtorEq, Value.bool.injEq, Bool.false_eq_true, Bool.true_eq_false, iteW_true, iteW_false, X_mov, X_pick, X_add, X_sub, X_mul, X_and, X_or, X_xor, X_andNot, X_eql, X_neq, X_lss, X_leq, X_gtr, X_geq, X_eqb, X_eqp, X_not, X_neg, X_cnv, X_ext, X_nil, X_nilF, X_fad, X_fld, X_fldn, X_mnx, X_mkf, X_mki, getK_0, bff, btf, Option.isNone_some, Option.isNone_none, getK_succ, endQ_ret, endQ_normal, retV, resK_0, resK_t, resK_ce, resK_cn, initT_eq, List.getD_cons_zero, List.getD_cons_succ]
  refine X_call0 ((culletlaw04_same_spec w11 sm c2 _ _ om hc2 (by simp) (by simp)).mono ?_)
  rintro _ w12 ⟨rfl, hk⟩
  have hB := hk.1
  clear hk
  have B12 : RowKit.Below w.heap.size w w12 := B11.trans (hB.mono B11.size)
  clear hB B11
  simp only [List.getElem_cons_zero, List.getElem_cons_succ, and_true, true_and, decide_true, decide_false, Bool.not_true, Bool.not_false, WP_seq, WP_ops, WP_ite, WP_block, WP_skip, WP_ret, WP_exit, exThen_normal, exThen_exit, exThen_ret, exBlock_normal, exBlock_exit, exBlock_ret, W_nil, W_cons, W_consG, I.at, atL, atO, atP, put_some, put_none, ev_t, ev_c, evp, evs, upd_apply, ↓reduceIte, Nat.reduceEqDiff, reduceCtorEq, Value.bool.injEq, Bool.false_eq_true, Bool.true_eq_false, iteW_true, iteW_false, X_mov, X_pick, X_add, X_sub, X_mul, X_and, X_or, X_xor, X_andNot, X_eql, X_neq, X_lss, X_leq, X_gtr, X_geq, X_eqb, X_eqp, X_not, X_neg, X_cnv, X_ext, X_nil, X_nilF, X_fad, X_fld, X_fldn, X_mnx, X_mkf, X_mki, getK_0, bff, btf, Option.isNone_some, Option.isNone_none, getK_succ, endQ_ret, endQ_normal, retV, resK_0, resK_t, resK_ce, resK_cn, initT_eq, List.getD_cons_zero, List.getD_cons_succ, List.map_cons, List.map_nil]
  exact B12
end Go.Proofs.Ytcdagkcchfibjaa.Fw
