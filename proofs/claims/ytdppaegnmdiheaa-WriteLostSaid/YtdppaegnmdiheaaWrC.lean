/- Chapter 21: what the writer's Packet comes to. -/
import Derived.Test.YtdppaegnmdiheaaWrB
set_option linter.unusedVariables false
set_option linter.unusedSimpArgs false
set_option maxRecDepth 10000
namespace Go.Proofs.YtdppaegnmdiheaaA
open Go.RowKit
attribute [local congr] bind_congr1 map_congr1 cond_congr1 withX_congr after_congr br_congr gd_congr

def r12 : AC := match af12.body with | .seq a _ => a | _ => .skip
def b12 : AC := match af12.body with | .seq _ (.seq b _) => b | _ => .skip
def c12 : AC := match af12.body with | .seq _ (.seq _ c) => c | _ => .skip
theorem body12 : af12.body = .seq r12 (.seq b12 c12) := rfl
/-- How the packet's own variables lie: the packet, the result. -/
structure Pk (o q : Nat) (x : Wr) (L E : Int) (K : Bool) (ps : List AV) (T : Tm) (S : St) : Prop where
  t0 : T.get 0 = some (pt o)
  t1 : T.get 1 = some (.int .i64 L)
  t2 : T.get 2 = some (.int .i64 E)
  t3 : T.get 3 = some (.bool K)
  t9 : T.get 9 = some (.ptr (some ⟨q, 0, 0, 9⟩))
  t10 : T.get 10 = some (.ptr (some ⟨q + 1, 0, 0, 9⟩))
  t11 : T.get 11 = some (.bool false)
  gw : S.get o = some (wr x)
  gp : S.get q = some (.cells ps 0 0 true)
  gr : S.get (q + 1) = some (.cells rtp0 0 0 true)
  lo : o < q
  hi : q + 1 < S.next
def Pk12 (o q : Nat) (x : Wr) (L E : Int) (K : Bool) (tm : Int) (S : St) (r : Ex) (T' : Tm) (S' : St) : Prop :=
  match pkW x L E K tm with
  | none => r = .ret ∧ T'.get 10 = some (.ptr (some ⟨q + 1, 0, 0, 9⟩)) ∧ T'.get 11 = some (.bool false) ∧ Upd S S' (q + 1) (.cells rtp0 0 0 true)
  | some x' => r = .normal ∧ T'.get 0 = some (pt o) ∧ T'.get 9 = some (.ptr (some ⟨q, 0, 0, 9⟩)) ∧ T'.get 10 = some (.ptr (some ⟨q + 1, 0, 0, 9⟩)) ∧ Mut S S' o (wr x')
set_option maxHeartbeats 4000000 in
theorem blk12 (k : Nat) {o q : Nat} {x : Wr} {L E ty sq tm ss pf : Int} {K mk : Bool} {cs ex pl : AV} (h0 : 0 ≤ tm) (h1 : tm < 4294967296) {T : Tm} {S : St} (h : Pk o q x L E K (rin mk ty sq tm ss cs pf ex pl) T S) :
    Goes (evF Y AP (k + 9)) (k + 9) b12 T S (Pk12 o q x L E K tm S) := by
  obtain ⟨t0, t1, t2, t3, t9, t10, t11, gw, gp, gr, lo, hi⟩ := h
  have n1 : ¬ o = q := by omega
  have n2 : ¬ q = o := by omega
  have n3 : ¬ o = q + 1 := by omega
  have n4 : ¬ q + 1 = o := by omega
  have n5 : ¬ q = q + 1 := by omega
  have n6 : ¬ q + 1 = q := by omega
  have hrd : ∀ v i m, S.rd o v i m = rdO (wr x) v i m := rd_of gw
  have hrp : ∀ v i m, S.rd q v i m = rdO (.cells (rin mk ty sq tm ss cs pf ex pl) 0 0 true) v i m := rd_of gp
  have no : pkW x L E K tm = none → ∀ T' S', T'.get 10 = some (.ptr (some ⟨q + 1, 0, 0, 9⟩)) → T'.get 11 = some (.bool false) → Upd S S' (q + 1) (.cells rtp0 0 0 true) → Pk12 o q x L E K tm S .ret T' S' := by
    intro hn T' S' a b c
    unfold Pk12
    rw [hn]
    exact ⟨rfl, a, b, c⟩
  by_cases c1 : L < 0
  · simp -implicitDefEqProofs -dsimp (maxSteps := 10000000) only [b12, af12, ↓goes_loop, ↓goes_seq, ↓goes_reg, ↓goes_dreg, ↓goes_cond, ↓goes_block, ↓goes_skip, ↓goes_exit, ↓goes_ret, after_some, br_true, br_false, ↓then_normal, ↓then_exit, ↓then_ret, ↓blk_normal, ↓blk_exit, ↓blk_ret, ↓blk_other, ops_nil, ops_some, ops_none, oper_none, oper_some, gd_tt, gd_ff, gd_tf, gd_ft, gd_undef, ↓any_op, ↓any_call, ↓any_callV, ↓any_invoke, xo_t, xo_c, args_nil, args_cons, bin_add, bin_sub, bin_mul, bin_quo, bin_rem, bin_and, bin_or, bin_xor, bin_andNot, bin_eql, bin_neq, bin_lss, bin_leq, bin_gtr, bin_geq, bin_shl, bin_shr, bin_bools, bin_strs, bin_ptrs, bin_slices, bin_aggs, ↓Option.bind_some, ↓Option.map_some, ↓cond_true, ↓cond_false, evC, evOp, XO.lit, setArgs, Tr.get_set, Option.bind_some, Option.map_some, cond_true, cond_false, maxI, maxFrom, minI, minFrom, aConv, aBinE, aEq, eqScal, aUn, evRes, fin, oneOf, if_true, if_false, callee, reduceCtorEq, Nat.reduceEqDiff, and_self, decide_true, decide_false, beq_true, beq_false, Bool.not_true, Bool.not_false, List.getElem?_cons_zero, List.getElem?_cons_succ, beq_self_eq_true, gt_iff_lt, ble_dec, beq_dec, List.head?_cons, AV.undef, eq_self, ne_eq, not_true_eq_false, not_false_eq_true, Int.reduceLT, Int.reduceLE, Int.reduceToNat, Int.reduceEq, Int.reduceNeg, Nat.reduceAdd, Nat.reduceLT, Nat.reduceLeDiff, Nat.reduceMul, Nat.reduceSub, ↓evDraw_nil, bir, putD, evDraw, trace, List.all_cons, List.all_nil, chk, stAt, again, sameV, sameA, AV.undef, Bool.and_self, Bool.and_true, decide_eq_true_eq, List.getElem?_nil, AV.cells, AV.tup, Bool.true_and, true_and, and_true, List.drop_nil, List.append_nil, rd_put, rd_alloc, rdO, St.get_put, St.get_alloc, St.next_put, St.next_alloc, St.wr, Bool.and_self, Bool.and_true, List.length_cons, List.length_nil, List.take_succ_cons, List.take_zero, List.drop_succ_cons, List.drop_zero, List.cons_append, List.nil_append, Nat.zero_add, Nat.add_zero, Nat.reduceMul, aFill, evParts, rep, List.replicate_succ, List.replicate_zero, List.flatten_cons, List.flatten_nil, List.append_nil, newSl, newVar, t0, t1, t2, t3, t9, t10, t11, gr, rtp0, c1]
    refine no (by rw [pkW, if_pos (.inl c1)]) _ _ ?_ ?_ (Upd.one _ _ _)
    all_goals simp only [Tr.get_set, Nat.reduceEqDiff, if_false, if_true, t10]
  by_cases c2 : L = x.w
  rotate_left
  · simp -implicitDefEqProofs -dsimp (maxSteps := 10000000) only [b12, af12, ↓goes_loop, ↓goes_seq, ↓goes_reg, ↓goes_dreg, ↓goes_cond, ↓goes_block, ↓goes_skip, ↓goes_exit, ↓goes_ret, after_some, br_true, br_false, ↓then_normal, ↓then_exit, ↓then_ret, ↓blk_normal, ↓blk_exit, ↓blk_ret, ↓blk_other, ops_nil, ops_some, ops_none, oper_none, oper_some, gd_tt, gd_ff, gd_tf, gd_ft, gd_undef, ↓any_op, ↓any_call, ↓any_callV, ↓any_invoke, xo_t, xo_c, args_nil, args_cons, bin_add, bin_sub, bin_mul, bin_quo, bin_rem, bin_and, bin_or, bin_xor, bin_andNot, bin_eql, bin_neq, bin_lss, bin_leq, bin_gtr, bin_geq, bin_shl, bin_shr, bin_bools, bin_strs, bin_ptrs, bin_slices, bin_aggs, ↓Option.bind_some, ↓Option.map_some, ↓cond_true, ↓cond_false, evC, evOp, XO.lit, setArgs, Tr.get_set, Option.bind_some, Option.map_some, cond_true, cond_false, maxI, maxFrom, minI, minFrom, aConv, aBinE, aEq, eqScal, aUn, evRes, fin, oneOf, if_true, if_false, callee, reduceCtorEq, Nat.reduceEqDiff, and_self, decide_true, decide_false, beq_true, beq_false, Bool.not_true, Bool.not_false, List.getElem?_cons_zero, List.getElem?_cons_succ, beq_self_eq_true, gt_iff_lt, ble_dec, beq_dec, List.head?_cons, AV.undef, eq_self, ne_eq, not_true_eq_false, not_false_eq_true, Int.reduceLT, Int.reduceLE, Int.reduceToNat, Int.reduceEq, Int.reduceNeg, Nat.reduceAdd, Nat.reduceLT, Nat.reduceLeDiff, Nat.reduceMul, Nat.reduceSub, ↓evDraw_nil, bir, putD, evDraw, trace, List.all_cons, List.all_nil, chk, stAt, again, sameV, sameA, AV.undef, Bool.and_self, Bool.and_true, decide_eq_true_eq, List.getElem?_nil, AV.cells, AV.tup, Bool.true_and, true_and, and_true, List.drop_nil, List.append_nil, rd_put, rd_alloc, rdO, St.get_put, St.get_alloc, St.next_put, St.next_alloc, St.wr, Bool.and_self, Bool.and_true, List.length_cons, List.length_nil, List.take_succ_cons, List.take_zero, List.drop_succ_cons, List.drop_zero, List.cons_append, List.nil_append, Nat.zero_add, Nat.add_zero, Nat.reduceMul, aFill, evParts, rep, List.replicate_succ, List.replicate_zero, List.flatten_cons, List.flatten_nil, List.append_nil, newSl, newVar, t0, t1, t2, t3, t9, t10, t11, gr, rtp0, hrd, wr, c1, c2]
    refine no (by rw [pkW, if_pos (.inr (.inl c2))]) _ _ ?_ ?_ (Upd.one _ _ _)
    all_goals simp only [Tr.get_set, Nat.reduceEqDiff, if_false, if_true, t10]
  by_cases c3 : E < 0
  · simp -implicitDefEqProofs -dsimp (maxSteps := 10000000) only [b12, af12, ↓goes_loop, ↓goes_seq, ↓goes_reg, ↓goes_dreg, ↓goes_cond, ↓goes_block, ↓goes_skip, ↓goes_exit, ↓goes_ret, after_some, br_true, br_false, ↓then_normal, ↓then_exit, ↓then_ret, ↓blk_normal, ↓blk_exit, ↓blk_ret, ↓blk_other, ops_nil, ops_some, ops_none, oper_none, oper_some, gd_tt, gd_ff, gd_tf, gd_ft, gd_undef, ↓any_op, ↓any_call, ↓any_callV, ↓any_invoke, xo_t, xo_c, args_nil, args_cons, bin_add, bin_sub, bin_mul, bin_quo, bin_rem, bin_and, bin_or, bin_xor, bin_andNot, bin_eql, bin_neq, bin_lss, bin_leq, bin_gtr, bin_geq, bin_shl, bin_shr, bin_bools, bin_strs, bin_ptrs, bin_slices, bin_aggs, ↓Option.bind_some, ↓Option.map_some, ↓cond_true, ↓cond_false, evC, evOp, XO.lit, setArgs, Tr.get_set, Option.bind_some, Option.map_some, cond_true, cond_false, maxI, maxFrom, minI, minFrom, aConv, aBinE, aEq, eqScal, aUn, evRes, fin, oneOf, if_true, if_false, callee, reduceCtorEq, Nat.reduceEqDiff, and_self, decide_true, decide_false, beq_true, beq_false, Bool.not_true, Bool.not_false, List.getElem?_cons_zero, List.getElem?_cons_succ, beq_self_eq_true, gt_iff_lt, ble_dec, beq_dec, List.head?_cons, AV.undef, eq_self, ne_eq, not_true_eq_false, not_false_eq_true, Int.reduceLT, Int.reduceLE, Int.reduceToNat, Int.reduceEq, Int.reduceNeg, Nat.reduceAdd, Nat.reduceLT, Nat.reduceLeDiff, Nat.reduceMul, Nat.reduceSub, ↓evDraw_nil, bir, putD, evDraw, trace, List.all_cons, List.all_nil, chk, stAt, again, sameV, sameA, AV.undef, Bool.and_self, Bool.and_true, decide_eq_true_eq, List.getElem?_nil, AV.cells, AV.tup, Bool.true_and, true_and, and_true, List.drop_nil, List.append_nil, rd_put, rd_alloc, rdO, St.get_put, St.get_alloc, St.next_put, St.next_alloc, St.wr, Bool.and_self, Bool.and_true, List.length_cons, List.length_nil, List.take_succ_cons, List.take_zero, List.drop_succ_cons, List.drop_zero, List.cons_append, List.nil_append, Nat.zero_add, Nat.add_zero, Nat.reduceMul, aFill, evParts, rep, List.replicate_succ, List.replicate_zero, List.flatten_cons, List.flatten_nil, List.append_nil, newSl, newVar, t0, t1, t2, t3, t9, t10, t11, gr, rtp0, hrd, wr, c1, ← c2, c3]
    refine no (by rw [pkW, if_pos (.inr (.inr c3))]) _ _ ?_ ?_ (Upd.one _ _ _)
    all_goals simp only [Tr.get_set, Nat.reduceEqDiff, if_false, if_true, t10]
  have hp : pkW x L E K tm = if L = x.l then (if E ≤ x.i then none else some (goW x E tm)) else if K = true then some (begW x L E tm) else none := by
    rw [pkW, if_neg (by omega)]
  by_cases c4 : L = x.l
  · rw [if_pos c4] at hp
    by_cases c5 : E ≤ x.i
    · rw [if_pos c5] at hp
      simp -implicitDefEqProofs -dsimp (maxSteps := 10000000) only [b12, af12, ↓goes_loop, ↓goes_seq, ↓goes_reg, ↓goes_dreg, ↓goes_cond, ↓goes_block, ↓goes_skip, ↓goes_exit, ↓goes_ret, after_some, br_true, br_false, ↓then_normal, ↓then_exit, ↓then_ret, ↓blk_normal, ↓blk_exit, ↓blk_ret, ↓blk_other, ops_nil, ops_some, ops_none, oper_none, oper_some, gd_tt, gd_ff, gd_tf, gd_ft, gd_undef, ↓any_op, ↓any_call, ↓any_callV, ↓any_invoke, xo_t, xo_c, args_nil, args_cons, bin_add, bin_sub, bin_mul, bin_quo, bin_rem, bin_and, bin_or, bin_xor, bin_andNot, bin_eql, bin_neq, bin_lss, bin_leq, bin_gtr, bin_geq, bin_shl, bin_shr, bin_bools, bin_strs, bin_ptrs, bin_slices, bin_aggs, ↓Option.bind_some, ↓Option.map_some, ↓cond_true, ↓cond_false, evC, evOp, XO.lit, setArgs, Tr.get_set, Option.bind_some, Option.map_some, cond_true, cond_false, maxI, maxFrom, minI, minFrom, aConv, aBinE, aEq, eqScal, aUn, evRes, fin, oneOf, if_true, if_false, callee, reduceCtorEq, Nat.reduceEqDiff, and_self, decide_true, decide_false, beq_true, beq_false, Bool.not_true, Bool.not_false, List.getElem?_cons_zero, List.getElem?_cons_succ, beq_self_eq_true, gt_iff_lt, ble_dec, beq_dec, List.head?_cons, AV.undef, eq_self, ne_eq, not_true_eq_false, not_false_eq_true, Int.reduceLT, Int.reduceLE, Int.reduceToNat, Int.reduceEq, Int.reduceNeg, Nat.reduceAdd, Nat.reduceLT, Nat.reduceLeDiff, Nat.reduceMul, Nat.reduceSub, ↓evDraw_nil, bir, putD, evDraw, trace, List.all_cons, List.all_nil, chk, stAt, again, sameV, sameA, AV.undef, Bool.and_self, Bool.and_true, decide_eq_true_eq, List.getElem?_nil, AV.cells, AV.tup, Bool.true_and, true_and, and_true, List.drop_nil, List.append_nil, rd_put, rd_alloc, rdO, St.get_put, St.get_alloc, St.next_put, St.next_alloc, St.wr, Bool.and_self, Bool.and_true, List.length_cons, List.length_nil, List.take_succ_cons, List.take_zero, List.drop_succ_cons, List.drop_zero, List.cons_append, List.nil_append, Nat.zero_add, Nat.add_zero, Nat.reduceMul, aFill, evParts, rep, List.replicate_succ, List.replicate_zero, List.flatten_cons, List.flatten_nil, List.append_nil, newSl, newVar, t0, t1, t2, t3, t9, t10, t11, gr, rtp0, hrd, wr, c1, ← c2, c3, ← c4, c5]
      refine no hp _ _ ?_ ?_ (Upd.one _ _ _)
      all_goals simp only [Tr.get_set, Nat.reduceEqDiff, if_false, if_true, t10]
    · rw [if_neg c5] at hp
      simp -implicitDefEqProofs -dsimp (maxSteps := 10000000) only [b12, af12, ↓goes_loop, ↓goes_seq, ↓goes_reg, ↓goes_dreg, ↓goes_cond, ↓goes_block, ↓goes_skip, ↓goes_exit, ↓goes_ret, after_some, br_true, br_false, ↓then_normal, ↓then_exit, ↓then_ret, ↓blk_normal, ↓blk_exit, ↓blk_ret, ↓blk_other, ops_nil, ops_some, ops_none, oper_none, oper_some, gd_tt, gd_ff, gd_tf, gd_ft, gd_undef, ↓any_op, ↓any_call, ↓any_callV, ↓any_invoke, xo_t, xo_c, args_nil, args_cons, bin_add, bin_sub, bin_mul, bin_quo, bin_rem, bin_and, bin_or, bin_xor, bin_andNot, bin_eql, bin_neq, bin_lss, bin_leq, bin_gtr, bin_geq, bin_shl, bin_shr, bin_bools, bin_strs, bin_ptrs, bin_slices, bin_aggs, ↓Option.bind_some, ↓Option.map_some, ↓cond_true, ↓cond_false, evC, evOp, XO.lit, setArgs, Tr.get_set, Option.bind_some, Option.map_some, cond_true, cond_false, maxI, maxFrom, minI, minFrom, aConv, aBinE, aEq, eqScal, aUn, evRes, fin, oneOf, if_true, if_false, callee, reduceCtorEq, Nat.reduceEqDiff, and_self, decide_true, decide_false, beq_true, beq_false, Bool.not_true, Bool.not_false, List.getElem?_cons_zero, List.getElem?_cons_succ, beq_self_eq_true, gt_iff_lt, ble_dec, beq_dec, List.head?_cons, AV.undef, eq_self, ne_eq, not_true_eq_false, not_false_eq_true, Int.reduceLT, Int.reduceLE, Int.reduceToNat, Int.reduceEq, Int.reduceNeg, Nat.reduceAdd, Nat.reduceLT, Nat.reduceLeDiff, Nat.reduceMul, Nat.reduceSub, ↓evDraw_nil, bir, putD, evDraw, trace, List.all_cons, List.all_nil, chk, stAt, again, sameV, sameA, AV.undef, Bool.and_self, Bool.and_true, decide_eq_true_eq, List.getElem?_nil, AV.cells, AV.tup, Bool.true_and, true_and, and_true, List.drop_nil, List.append_nil, rd_put, rd_alloc, rdO, St.get_put, St.get_alloc, St.next_put, St.next_alloc, St.wr, Bool.and_self, Bool.and_true, List.length_cons, List.length_nil, List.take_succ_cons, List.take_zero, List.drop_succ_cons, List.drop_zero, List.cons_append, List.nil_append, Nat.zero_add, Nat.add_zero, Nat.reduceMul, aFill, evParts, rep, List.replicate_succ, List.replicate_zero, List.flatten_cons, List.flatten_nil, List.append_nil, newSl, newVar, t0, t1, t2, t3, t9, t10, t11, gr, gw, rin, hrd, hrp, wr, c1, ← c2, c3, ← c4, c5, n1, n2, n3, n4, y18, y19]
      unfold Pk12
      rw [hp]
      refine ⟨rfl, ?_, ?_, ?_, ?_, ?_, ?_⟩
      · simp only [Tr.get_set, Nat.reduceEqDiff, if_false, if_true, t0]
      · simp only [Tr.get_set, Nat.reduceEqDiff, if_false, if_true, t9]
      · simp only [Tr.get_set, Nat.reduceEqDiff, if_false, if_true, t10]
      · simp only [St.next_put]; exact Nat.le_refl _
      · simp only [St.get_put, if_true, wr, goW, mxi, ← c2, ← c4]
      · intro j hj hn
        simp only [St.get_put, if_neg hn]
  · rw [if_neg c4] at hp
    cases K with
    | false =>
      rw [if_neg (by simp)] at hp
      simp -implicitDefEqProofs -dsimp (maxSteps := 10000000) only [b12, af12, ↓goes_loop, ↓goes_seq, ↓goes_reg, ↓goes_dreg, ↓goes_cond, ↓goes_block, ↓goes_skip, ↓goes_exit, ↓goes_ret, after_some, br_true, br_false, ↓then_normal, ↓then_exit, ↓then_ret, ↓blk_normal, ↓blk_exit, ↓blk_ret, ↓blk_other, ops_nil, ops_some, ops_none, oper_none, oper_some, gd_tt, gd_ff, gd_tf, gd_ft, gd_undef, ↓any_op, ↓any_call, ↓any_callV, ↓any_invoke, xo_t, xo_c, args_nil, args_cons, bin_add, bin_sub, bin_mul, bin_quo, bin_rem, bin_and, bin_or, bin_xor, bin_andNot, bin_eql, bin_neq, bin_lss, bin_leq, bin_gtr, bin_geq, bin_shl, bin_shr, bin_bools, bin_strs, bin_ptrs, bin_slices, bin_aggs, ↓Option.bind_some, ↓Option.map_some, ↓cond_true, ↓cond_false, evC, evOp, XO.lit, setArgs, Tr.get_set, Option.bind_some, Option.map_some, cond_true, cond_false, maxI, maxFrom, minI, minFrom, aConv, aBinE, aEq, eqScal, aUn, evRes, fin, oneOf, if_true, if_false, callee, reduceCtorEq, Nat.reduceEqDiff, and_self, decide_true, decide_false, beq_true, beq_false, Bool.not_true, Bool.not_false, List.getElem?_cons_zero, List.getElem?_cons_succ, beq_self_eq_true, gt_iff_lt, ble_dec, beq_dec, List.head?_cons, AV.undef, eq_self, ne_eq, not_true_eq_false, not_false_eq_true, Int.reduceLT, Int.reduceLE, Int.reduceToNat, Int.reduceEq, Int.reduceNeg, Nat.reduceAdd, Nat.reduceLT, Nat.reduceLeDiff, Nat.reduceMul, Nat.reduceSub, ↓evDraw_nil, bir, putD, evDraw, trace, List.all_cons, List.all_nil, chk, stAt, again, sameV, sameA, AV.undef, Bool.and_self, Bool.and_true, decide_eq_true_eq, List.getElem?_nil, AV.cells, AV.tup, Bool.true_and, true_and, and_true, List.drop_nil, List.append_nil, rd_put, rd_alloc, rdO, St.get_put, St.get_alloc, St.next_put, St.next_alloc, St.wr, Bool.and_self, Bool.and_true, List.length_cons, List.length_nil, List.take_succ_cons, List.take_zero, List.drop_succ_cons, List.drop_zero, List.cons_append, List.nil_append, Nat.zero_add, Nat.add_zero, Nat.reduceMul, aFill, evParts, rep, List.replicate_succ, List.replicate_zero, List.flatten_cons, List.flatten_nil, List.append_nil, newSl, newVar, t0, t1, t2, t3, t9, t10, t11, gr, rtp0, hrd, wr, c1, ← c2, c3, c4]
      refine no hp _ _ ?_ ?_ (Upd.one _ _ _)
      all_goals simp only [Tr.get_set, Nat.reduceEqDiff, if_false, if_true, t10]
    | true =>
      rw [if_pos rfl] at hp
      obtain ⟨S', hb, hm⟩ := T20 (k + 5) gw (by omega) (L := L) (E := E) (ty := ty) (sq := sq) (tm := tm) (ss := ss) (mk := mk) (cs := cs) (pf := pf) (ex := ex) (pl := pl) h0 h1
      have hb : evF Y AP (k + 9) 20 [pt o, .int .i64 L, .int .i64 E, .agg [.bool mk, .int .i64 ty, .int .u16 sq, .int .u32 tm, .int .u32 ss, cs, .int .u16 pf, ex, pl]] S = some (.tuple [], S') := hb
      simp -implicitDefEqProofs -dsimp (maxSteps := 10000000) only [b12, af12, ↓goes_loop, ↓goes_seq, ↓goes_reg, ↓goes_dreg, ↓goes_cond, ↓goes_block, ↓goes_skip, ↓goes_exit, ↓goes_ret, after_some, br_true, br_false, ↓then_normal, ↓then_exit, ↓then_ret, ↓blk_normal, ↓blk_exit, ↓blk_ret, ↓blk_other, ops_nil, ops_some, ops_none, oper_none, oper_some, gd_tt, gd_ff, gd_tf, gd_ft, gd_undef, ↓any_op, ↓any_call, ↓any_callV, ↓any_invoke, xo_t, xo_c, args_nil, args_cons, bin_add, bin_sub, bin_mul, bin_quo, bin_rem, bin_and, bin_or, bin_xor, bin_andNot, bin_eql, bin_neq, bin_lss, bin_leq, bin_gtr, bin_geq, bin_shl, bin_shr, bin_bools, bin_strs, bin_ptrs, bin_slices, bin_aggs, ↓Option.bind_some, ↓Option.map_some, ↓cond_true, ↓cond_false, evC, evOp, XO.lit, setArgs, Tr.get_set, Option.bind_some, Option.map_some, cond_true, cond_false, maxI, maxFrom, minI, minFrom, aConv, aBinE, aEq, eqScal, aUn, evRes, fin, oneOf, if_true, if_false, callee, reduceCtorEq, Nat.reduceEqDiff, and_self, decide_true, decide_false, beq_true, beq_false, Bool.not_true, Bool.not_false, List.getElem?_cons_zero, List.getElem?_cons_succ, beq_self_eq_true, gt_iff_lt, ble_dec, beq_dec, List.head?_cons, AV.undef, eq_self, ne_eq, not_true_eq_false, not_false_eq_true, Int.reduceLT, Int.reduceLE, Int.reduceToNat, Int.reduceEq, Int.reduceNeg, Nat.reduceAdd, Nat.reduceLT, Nat.reduceLeDiff, Nat.reduceMul, Nat.reduceSub, ↓evDraw_nil, bir, putD, evDraw, trace, List.all_cons, List.all_nil, chk, stAt, again, sameV, sameA, AV.undef, Bool.and_self, Bool.and_true, decide_eq_true_eq, List.getElem?_nil, AV.cells, AV.tup, Bool.true_and, true_and, and_true, List.drop_nil, List.append_nil, rd_put, rd_alloc, rdO, St.get_put, St.get_alloc, St.next_put, St.next_alloc, St.wr, Bool.and_self, Bool.and_true, List.length_cons, List.length_nil, List.take_succ_cons, List.take_zero, List.drop_succ_cons, List.drop_zero, List.cons_append, List.nil_append, Nat.zero_add, Nat.add_zero, Nat.reduceMul, aFill, evParts, rep, List.replicate_succ, List.replicate_zero, List.flatten_cons, List.flatten_nil, List.append_nil, newSl, newVar, t0, t1, t2, t3, t9, t10, t11, gr, rin, hrd, hrp, wr, c1, ← c2, c3, c4, hb]
      unfold Pk12
      rw [hp]
      refine ⟨rfl, ?_, ?_, ?_, hm⟩
      all_goals simp only [Tr.get_set, Nat.reduceEqDiff, if_false, if_true, t0, t9, t10]
/-- What a Packet gives back. -/
def Pkd (o : Nat) (r : Option Wr) (mk : Bool) (ty : Int) (pl : List Nat) (S : St) (v : AV) (S' : St) : Prop :=
  match r with
  | none => v = .tuple [.agg rtp0, .bool false] ∧ Ext S S'
  | some x' => ∃ u, v = .tuple [.agg (rtp mk ty (x'.n % 65536) (x'.p % 4294967296) x'.s u), .bool true] ∧ Mut S S' o (wr x') ∧ Bn S S' u pl
set_option maxHeartbeats 4000000 in
theorem T12 (k : Nat) {o : Nat} {x : Wr} {S : St} (hS : S.get o = some (wr x)) (ho : o < S.next) {L E ty sq tm ss pf : Int} {K mk : Bool} {cs ex : AV} (h0 : 0 ≤ tm) (h1 : tm < 4294967296)
    {p : Option (Nat × Nat × Nat)} {e : Nat} {c : Option Nat} {pl : List Nat} (hp : By S p e pl) (hne : ∀ o' v i, p = some (o', v, i) → ¬ o' = o) (hr : pl.length ≤ 1000000) :
    ∃ v S', evF Y AP (k + 10) 12 [pt o, .int .i64 L, .int .i64 E, .bool K, .agg (rin mk ty sq tm ss cs pf ex (.slice p pl.length e c))] S = some (v, S') ∧ Pkd o (pkW x L E K tm) mk ty pl S v S' := by
  refine evF_goes (af := af12) (k := k + 9) rfl rfl rfl ?_
  rw [body12]
  have n1 : ¬ o = S.next := by omega
  have n2 : ¬ o = S.next + 1 := by omega
  simp -implicitDefEqProofs -dsimp (maxSteps := 10000000) only [r12, af12, ↓goes_loop, ↓goes_seq, ↓goes_reg, ↓goes_dreg, ↓goes_cond, ↓goes_block, ↓goes_skip, ↓goes_exit, ↓goes_ret, after_some, br_true, br_false, ↓then_normal, ↓then_exit, ↓then_ret, ↓blk_normal, ↓blk_exit, ↓blk_ret, ↓blk_other, ops_nil, ops_some, ops_none, oper_none, oper_some, gd_tt, gd_ff, gd_tf, gd_ft, gd_undef, ↓any_op, ↓any_call, ↓any_callV, ↓any_invoke, xo_t, xo_c, args_nil, args_cons, bin_add, bin_sub, bin_mul, bin_quo, bin_rem, bin_and, bin_or, bin_xor, bin_andNot, bin_eql, bin_neq, bin_lss, bin_leq, bin_gtr, bin_geq, bin_shl, bin_shr, bin_bools, bin_strs, bin_ptrs, bin_slices, bin_aggs, ↓Option.bind_some, ↓Option.map_some, ↓cond_true, ↓cond_false, evC, evOp, XO.lit, setArgs, Tr.tabG, Tr.tabS, Tr.tabL, Tr.get_lf, Option.bind_some, Option.map_some, cond_true, cond_false, maxI, maxFrom, minI, minFrom, aConv, aBinE, aEq, eqScal, aUn, evRes, fin, oneOf, if_true, if_false, callee, reduceCtorEq, Nat.reduceEqDiff, and_self, decide_true, decide_false, beq_true, beq_false, Bool.not_true, Bool.not_false, List.getElem?_cons_zero, List.getElem?_cons_succ, beq_self_eq_true, gt_iff_lt, ble_dec, beq_dec, List.head?_cons, AV.undef, eq_self, ne_eq, not_true_eq_false, not_false_eq_true, Int.reduceLT, Int.reduceLE, Int.reduceToNat, Int.reduceEq, Int.reduceNeg, Nat.reduceAdd, Nat.reduceLT, Nat.reduceLeDiff, Nat.reduceMul, Nat.reduceSub, aFill, evParts, rep, List.replicate_succ, List.replicate_zero, List.flatten_cons, List.flatten_nil, List.append_nil, newSl, newVar, rin, AV.tup, AV.cells, List.length_cons, List.length_nil, St.next_alloc]
  obtain ⟨S2, hS2⟩ : ∃ S2, (S.alloc (.cells (rin mk ty sq tm ss cs pf ex (.slice p pl.length e c)) 0 0 true)).alloc (.cells rtp0 0 0 true) = S2 := ⟨_, rfl⟩
  have e2 : Ext S S2 := hS2 ▸ (Ext.alloc S _).then_alloc _
  have nx : S2.next = S.next + 1 + 1 := by rw [← hS2]; rfl
  have g1 : S2.get o = some (wr x) := e2.get ho hS
  have g2 : S2.get S.next = some (.cells (rin mk ty sq tm ss cs pf ex (.slice p pl.length e c)) 0 0 true) := by
    rw [← hS2, St.get_alloc, if_neg (by simp only [St.next_alloc]; omega), St.get_alloc, if_pos rfl]
  have g3 : S2.get (S.next + 1) = some (.cells rtp0 0 0 true) := by
    rw [← hS2, St.get_alloc, if_pos (by simp only [St.next_alloc])]
  have hS2' : (S.alloc (.cells [.bool mk, .int .i64 ty, .int .u16 sq, .int .u32 tm, .int .u32 ss, cs, .int .u16 pf, ex, .slice p pl.length e c] 0 0 true)).alloc (.cells [.bool false, .int .i64 0, .int .u16 0, .int .u32 0, .int .u32 0, .slice none 0 0 none, .int .u16 0, .slice none 0 0 none, .slice none 0 0 none] 0 0 true) = S2 := hS2
  rw [hS2']
  refine (blk12 k h0 h1 (ty := ty) (sq := sq) (ss := ss) (mk := mk) (cs := cs) (pf := pf) (ex := ex) (pl := .slice p pl.length e c) (o := o) (q := S.next) (x := x) (L := L) (E := E) (K := K) ⟨rfl, rfl, rfl, rfl, rfl, rfl, rfl, g1, g2, g3, ho, by omega⟩).mono ?_
  intro r T' S' hq
  unfold Pk12 at hq
  unfold Pkd
  cases hk : pkW x L E K tm with
  | none =>
    rw [hk] at hq
    obtain ⟨rfl, t10, t11, u⟩ := hq
    have hrd : ∀ v i m, S'.rd (S.next + 1) v i m = rdO (.cells rtp0 0 0 true) v i m := rd_of u.same
    simp -implicitDefEqProofs -dsimp (maxSteps := 10000000) only [↓goes_loop, ↓goes_seq, ↓goes_reg, ↓goes_dreg, ↓goes_cond, ↓goes_block, ↓goes_skip, ↓goes_exit, ↓goes_ret, after_some, br_true, br_false, ↓then_normal, ↓then_exit, ↓then_ret, ↓blk_normal, ↓blk_exit, ↓blk_ret, ↓blk_other, ops_nil, ops_some, ops_none, oper_none, oper_some, gd_tt, gd_ff, gd_tf, gd_ft, gd_undef, ↓any_op, ↓any_call, ↓any_callV, ↓any_invoke, xo_t, xo_c, args_nil, args_cons, bin_add, bin_sub, bin_mul, bin_quo, bin_rem, bin_and, bin_or, bin_xor, bin_andNot, bin_eql, bin_neq, bin_lss, bin_leq, bin_gtr, bin_geq, bin_shl, bin_shr, bin_bools, bin_strs, bin_ptrs, bin_slices, bin_aggs, ↓Option.bind_some, ↓Option.map_some, ↓cond_true, ↓cond_false, evC, evOp, XO.lit, setArgs, Tr.get_set, Option.bind_some, Option.map_some, cond_true, cond_false, maxI, maxFrom, minI, minFrom, aConv, aBinE, aEq, eqScal, aUn, evRes, fin, oneOf, if_true, if_false, callee, reduceCtorEq, Nat.reduceEqDiff, and_self, decide_true, decide_false, beq_true, beq_false, Bool.not_true, Bool.not_false, List.getElem?_cons_zero, List.getElem?_cons_succ, beq_self_eq_true, gt_iff_lt, ble_dec, beq_dec, List.head?_cons, AV.undef, eq_self, ne_eq, not_true_eq_false, not_false_eq_true, Int.reduceLT, Int.reduceLE, Int.reduceToNat, Int.reduceEq, Int.reduceNeg, Nat.reduceAdd, Nat.reduceLT, Nat.reduceLeDiff, Nat.reduceMul, Nat.reduceSub, AV.cells, AV.tup, Bool.true_and, true_and, and_true, List.drop_nil, List.append_nil, rd_put, rd_alloc, rdO, St.get_put, St.get_alloc, St.next_put, St.next_alloc, St.wr, Bool.and_self, Bool.and_true, List.length_cons, List.length_nil, List.take_succ_cons, List.take_zero, List.drop_succ_cons, List.drop_zero, List.cons_append, List.nil_append, Nat.zero_add, Nat.add_zero, Nat.reduceMul, t10, t11, hrd, rtp0]
    exact ⟨_, _, rfl, rfl, u.ext e2 (by omega)⟩
  | some x' =>
    rw [hk] at hq
    obtain ⟨rfl, t0, t9, t10, m⟩ := hq
    have hp2 := (hp.ext e2).mut m hne
    obtain ⟨p', e', S3, h21, g⟩ := T21 (k + 6) (c := c) hp2 (by omega)
    have h21 : evF Y AP (k + 9) 21 [.slice p pl.length e c] S' = some (.slice p' pl.length e' none, S3) := h21
    have lt1 := m.next
    have gp : S'.get S.next = some (.cells (rin mk ty sq tm ss cs pf ex (.slice p pl.length e c)) 0 0 true) := by rw [m.old _ (by omega) (by omega)]; exact g2
    have gr : S'.get (S.next + 1) = some (.cells rtp0 0 0 true) := by rw [m.old _ (by omega) (by omega)]; exact g3
    have hrp : ∀ v i m, S'.rd S.next v i m = rdO (.cells (rin mk ty sq tm ss cs pf ex (.slice p pl.length e c)) 0 0 true) v i m := rd_of gp
    have hrw : ∀ v i m, S'.rd o v i m = rdO (wr x') v i m := rd_of m.get
    have hrp3 : ∀ v i m, S3.rd S.next v i m = rdO (.cells (rin mk ty sq tm ss cs pf ex (.slice p pl.length e c)) 0 0 true) v i m := rd_of (g.ext.get (by omega) gp)
    have hrw3 : ∀ v i m, S3.rd o v i m = rdO (wr x') v i m := rd_of (g.ext.get (by omega) m.get)
    have gr3 : S3.get (S.next + 1) = some (.cells rtp0 0 0 true) := g.ext.get (by omega) gr
    simp -implicitDefEqProofs -dsimp (maxSteps := 10000000) only [c12, af12, ↓goes_loop, ↓goes_seq, ↓goes_reg, ↓goes_dreg, ↓goes_cond, ↓goes_block, ↓goes_skip, ↓goes_exit, ↓goes_ret, after_some, br_true, br_false, ↓then_normal, ↓then_exit, ↓then_ret, ↓blk_normal, ↓blk_exit, ↓blk_ret, ↓blk_other, ops_nil, ops_some, ops_none, oper_none, oper_some, gd_tt, gd_ff, gd_tf, gd_ft, gd_undef, ↓any_op, ↓any_call, ↓any_callV, ↓any_invoke, xo_t, xo_c, args_nil, args_cons, bin_add, bin_sub, bin_mul, bin_quo, bin_rem, bin_and, bin_or, bin_xor, bin_andNot, bin_eql, bin_neq, bin_lss, bin_leq, bin_gtr, bin_geq, bin_shl, bin_shr, bin_bools, bin_strs, bin_ptrs, bin_slices, bin_aggs, ↓Option.bind_some, ↓Option.map_some, ↓cond_true, ↓cond_false, evC, evOp, XO.lit, setArgs, Tr.get_set, Option.bind_some, Option.map_some, cond_true, cond_false, maxI, maxFrom, minI, minFrom, aConv, aBinE, aEq, eqScal, aUn, evRes, fin, oneOf, if_true, if_false, callee, reduceCtorEq, Nat.reduceEqDiff, and_self, decide_true, decide_false, beq_true, beq_false, Bool.not_true, Bool.not_false, List.getElem?_cons_zero, List.getElem?_cons_succ, beq_self_eq_true, gt_iff_lt, ble_dec, beq_dec, List.head?_cons, AV.undef, eq_self, ne_eq, not_true_eq_false, not_false_eq_true, Int.reduceLT, Int.reduceLE, Int.reduceToNat, Int.reduceEq, Int.reduceNeg, Nat.reduceAdd, Nat.reduceLT, Nat.reduceLeDiff, Nat.reduceMul, Nat.reduceSub, ↓evDraw_nil, bir, putD, evDraw, trace, List.all_cons, List.all_nil, chk, stAt, again, sameV, sameA, AV.undef, Bool.and_self, Bool.and_true, decide_eq_true_eq, List.getElem?_nil, AV.cells, AV.tup, Bool.true_and, true_and, and_true, List.drop_nil, List.append_nil, rd_put, rd_alloc, rdO, St.get_put, St.get_alloc, St.next_put, St.next_alloc, St.wr, Bool.and_self, Bool.and_true, List.length_cons, List.length_nil, List.take_succ_cons, List.take_zero, List.drop_succ_cons, List.drop_zero, List.cons_append, List.nil_append, Nat.zero_add, Nat.add_zero, Nat.reduceMul, aFill, evParts, rep, List.replicate_succ, List.replicate_zero, List.flatten_cons, List.flatten_nil, List.append_nil, newSl, newVar, t0, t9, t10, hrp, hrw, hrp3, hrw3, gr3, rin, rtp0, wr, h21, wrap_u16, IntKind.wrap_u32]
    have m3 : Mut S S3 o (wr x') := ((Mut.of_ext e2 hS ho).trans m).then_ext ho g.ext
    refine ⟨_, _, rfl, _, rfl, ?_, ?_⟩
    · exact ⟨Nat.le_trans m3.next (by simp only [St.next_put]; exact Nat.le_refl _), by rw [St.get_put, if_neg (by omega)]; exact m3.get, fun j hj hn => by rw [St.get_put, if_neg (by omega)]; exact m3.old j hj hn⟩
    · refine ⟨p', e', none, rfl, (g.by_ (by omega)).mut (Mut.of_upd (Upd.one S3 (S.next + 1) _)) fun o' v i hp' => ?_, fun o' v i hp' => ?_⟩
      · have := g.new o' v i hp'
        omega
      · have := g.new o' v i hp'
        omega
end Go.Proofs.YtdppaegnmdiheaaA
