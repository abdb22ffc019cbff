/- Chapter 13: the same, by both. -/
import Derived.Test.YtkbooepiomobdaaBdK
set_option linter.unusedVariables false
set_option linter.unusedSimpArgs false
set_option maxRecDepth 10000
namespace Go.Proofs.YtkbooepiomobdaaA
open Go.RowKit
attribute [local congr] bind_congr1 map_congr1 cond_congr1 withX_congr after_congr br_congr gd_congr

/-- What the rounds leave as it is. -/
structure Kp (v0 v1 v5 v6 v7 v8 v9 : AV) (T : Tm) : Prop where
  t0 : T.get 0 = some v0
  t1 : T.get 1 = some v1
  t5 : T.get 5 = some v5
  t6 : T.get 6 = some v6
  t7 : T.get 7 = some v7
  t8 : T.get 8 = some v8
  t9 : T.get 9 = some v9
structure I10a (v0 v1 v6 v7 v8 v9 : AV) (p : Option (Nat × Nat × Nat)) (c : Option Nat) (e : Nat) (w : Int) (l : List Tp) (Sb : St) (m : Nat) (T : Tm) (S : St) : Prop where
  kp : Kp v0 v1 (.slice p l.length e c) v6 v7 v8 v9 T
  t10 : T.get 10 = some (.int .u32 w)
  t30 : T.get 30 = some (.slice p l.length e c)
  t31 : T.get 31 = some (.int .i64 l.length)
  ext : Ext Sb S
  more : ∃ j : Nat, T.get 32 = some (.int .i64 j) ∧ j + m = l.length ∧ T.get 11 = some (.bool (ownB (l.take j) w))
theorem own_snoc {l : List Tp} {j : Nat} (hj : j < l.length) (w : Int) : ownB (l.take (j + 1)) w = (ownB (l.take j) w || decide (l[j].o = w)) := by
  rw [List.take_succ_eq_append_getElem hj]
  unfold ownB
  rw [List.any_append]; simp
set_option maxHeartbeats 4000000 in
theorem round10a (k : Nat) {v0 v1 v6 v7 v8 v9 : AV} {p : Option (Nat × Nat × Nat)} {c : Option Nat} {e : Nat} {w : Int} {l : List Tp} {Sb : St} (h : Ty Sb p e l) (m : Nat) (T : Tm) (S : St) (hI : I10a v0 v1 v6 v7 v8 v9 p c e w l Sb m T S) :
    Goes (evF Y AP (k + 1105)) (k + 1105) af10_l0 T S (Then (fun T' S' => ∃ m', I10a v0 v1 v6 v7 v8 v9 p c e w l Sb m' T' S' ∧ id m' < id m) fun r T' S' => r = .exit 2 ∧ I10a v0 v1 v6 v7 v8 v9 p c e w l Sb 0 T' S') := by
  obtain ⟨⟨t0, t1, t5, t6, t7, t8, t9⟩, t10, t30, t31, ex, j, t32, hm, t11⟩ := hI
  by_cases c1 : (j : Int) < (l.length : Int)
  rotate_left
  · simp -implicitDefEqProofs -dsimp (maxSteps := 10000000) only [af10_l0, ↓goes_loop, ↓goes_seq, ↓goes_reg, ↓goes_dreg, ↓goes_cond, ↓goes_block, ↓goes_skip, ↓goes_exit, ↓goes_ret, after_some, br_true, br_false, ↓then_normal, ↓then_exit, ↓then_ret, ↓blk_normal, ↓blk_exit, ↓blk_ret, ↓blk_other, ops_nil, ops_some, ops_none, oper_none, oper_some, gd_tt, gd_ff, gd_tf, gd_ft, gd_undef, ↓any_op, ↓any_call, ↓any_callV, ↓any_invoke, xo_t, xo_c, args_nil, args_cons, bin_add, bin_sub, bin_mul, bin_quo, bin_rem, bin_and, bin_or, bin_xor, bin_andNot, bin_eql, bin_neq, bin_lss, bin_leq, bin_gtr, bin_geq, bin_shl, bin_shr, bin_bools, bin_strs, bin_ptrs, bin_slices, bin_aggs, ↓Option.bind_some, ↓Option.map_some, ↓cond_true, ↓cond_false, evC, evOp, XO.lit, setArgs, Tr.get_set, Option.bind_some, Option.map_some, cond_true, cond_false, maxI, maxFrom, minI, minFrom, aConv, aBinE, aEq, eqScal, aUn, evRes, fin, oneOf, if_true, if_false, callee, reduceCtorEq, Nat.reduceEqDiff, and_self, decide_true, decide_false, beq_true, beq_false, Bool.not_true, Bool.not_false, List.getElem?_cons_zero, List.getElem?_cons_succ, beq_self_eq_true, gt_iff_lt, ble_dec, beq_dec, List.head?_cons, AV.undef, eq_self, ne_eq, not_true_eq_false, not_false_eq_true, Int.reduceLT, Int.reduceLE, Int.reduceToNat, Int.reduceEq, Int.reduceNeg, Nat.reduceAdd, Nat.reduceLT, Nat.reduceLeDiff, Nat.reduceMul, Nat.reduceSub, AV.cells, AV.tup, Bool.true_and, true_and, and_true, List.drop_nil, List.append_nil, rd_put, rd_alloc, rdO, St.get_put, St.get_alloc, St.next_put, St.next_alloc, St.wr, Bool.and_self, Bool.and_true, List.length_cons, List.length_nil, List.take_succ_cons, List.take_zero, List.drop_succ_cons, List.drop_zero, List.cons_append, List.nil_append, Nat.zero_add, Nat.add_zero, Nat.reduceMul, t31, t32, c1]
    refine ⟨⟨?_, ?_, ?_, ?_, ?_, ?_, ?_⟩, ?_, ?_, ?_, ex, j, ?_, by omega, ?_⟩ <;> simp only [Tr.get_set, Nat.reduceEqDiff, if_false, if_true, t0, t1, t5, t6, t7, t8, t9, t10, t11, t30, t31, t32]
  have hj : j < l.length := by omega
  obtain ⟨o, v, i, rfl, rfl, ho⟩ := h.some_ (by omega)
  have hix : ixOf (.int .i64 (j : Int)) l.length = some j := by rw [ix_ok (by omega) c1]; rfl
  have wj : IntKind.i64.wrap ((j : Int) + 1) = ((j + 1 : Nat) : Int) := w64_id (by omega) (by have := h.mx; omega)
  have hz : S.rd o v (i + j * 3) 3 = some [.int .u32 l[j].o, .int .u64 l[j].r, .int .i64 l[j].v] := by rw [ex.rd ho]; exact h.get hj
  have hos := own_snoc hj w
  obtain ⟨a, ha⟩ : ∃ a, l[j] = a := ⟨_, rfl⟩
  rw [ha] at hz hos
  obtain ⟨A, hA⟩ : ∃ A, (S.alloc (.cells [.int .u32 0, .int .u64 0, .int .i64 0] 0 0 true)).put S.next (.cells [.int .u32 a.o, .int .u64 a.r, .int .i64 a.v] 0 0 true) = A := ⟨_, rfl⟩
  have eA : Ext S A := by rw [← hA]; exact (Ext.alloc S _).then_put (Nat.le_refl _) _
  have rA : ∀ v i m, A.rd S.next v i m = rdO (.cells [.int .u32 a.o, .int .u64 a.r, .int .i64 a.v] 0 0 true) v i m := rd_of (by rw [← hA, St.get_put, if_pos rfl])
  cases hb : ownB (l.take j) w with
  | true =>
    rw [hb] at t11 hos
    simp -implicitDefEqProofs -dsimp (maxSteps := 10000000) only [af10_l0, ↓goes_loop, ↓goes_seq, ↓goes_reg, ↓goes_dreg, ↓goes_cond, ↓goes_block, ↓goes_skip, ↓goes_exit, ↓goes_ret, after_some, br_true, br_false, ↓then_normal, ↓then_exit, ↓then_ret, ↓blk_normal, ↓blk_exit, ↓blk_ret, ↓blk_other, ops_nil, ops_some, ops_none, oper_none, oper_some, gd_tt, gd_ff, gd_tf, gd_ft, gd_undef, ↓any_op, ↓any_call, ↓any_callV, ↓any_invoke, xo_t, xo_c, args_nil, args_cons, bin_add, bin_sub, bin_mul, bin_quo, bin_rem, bin_and, bin_or, bin_xor, bin_andNot, bin_eql, bin_neq, bin_lss, bin_leq, bin_gtr, bin_geq, bin_shl, bin_shr, bin_bools, bin_strs, bin_ptrs, bin_slices, bin_aggs, ↓Option.bind_some, ↓Option.map_some, ↓cond_true, ↓cond_false, evC, evOp, XO.lit, setArgs, Tr.get_set, Option.bind_some, Option.map_some, cond_true, cond_false, maxI, maxFrom, minI, minFrom, aConv, aBinE, aEq, eqScal, aUn, evRes, fin, oneOf, if_true, if_false, callee, reduceCtorEq, Nat.reduceEqDiff, and_self, decide_true, decide_false, beq_true, beq_false, Bool.not_true, Bool.not_false, List.getElem?_cons_zero, List.getElem?_cons_succ, beq_self_eq_true, gt_iff_lt, ble_dec, beq_dec, List.head?_cons, AV.undef, eq_self, ne_eq, not_true_eq_false, not_false_eq_true, Int.reduceLT, Int.reduceLE, Int.reduceToNat, Int.reduceEq, Int.reduceNeg, Nat.reduceAdd, Nat.reduceLT, Nat.reduceLeDiff, Nat.reduceMul, Nat.reduceSub, AV.cells, AV.tup, Bool.true_and, true_and, and_true, List.drop_nil, List.append_nil, rd_put, rd_alloc, rdO, St.get_put, St.get_alloc, St.next_put, St.next_alloc, St.wr, Bool.and_self, Bool.and_true, List.length_cons, List.length_nil, List.take_succ_cons, List.take_zero, List.drop_succ_cons, List.drop_zero, List.cons_append, List.nil_append, Nat.zero_add, Nat.add_zero, Nat.reduceMul, aFill, evParts, rep, List.replicate_succ, List.replicate_zero, List.flatten_cons, List.flatten_nil, List.append_nil, newSl, newVar, t10, t11, t30, t31, t32, c1, hix, hz, hA, rA, wj]
    refine ⟨m - 1, ⟨⟨?_, ?_, ?_, ?_, ?_, ?_, ?_⟩, ?_, ?_, ?_, ex.trans eA, j + 1, ?_, by omega, ?_⟩, by show m - 1 < m; omega⟩ <;> simp only [Tr.get_set, Nat.reduceEqDiff, if_false, if_true, t0, t1, t5, t6, t7, t8, t9, t10, t30, t31, hos, Bool.true_or]
  | false =>
    rw [hb] at t11 hos
    by_cases c2 : a.o = w
    · have c2' := eq_true c2
      rw [decide_eq_true c2] at hos
      simp -implicitDefEqProofs -dsimp (maxSteps := 10000000) only [af10_l0, ↓goes_loop, ↓goes_seq, ↓goes_reg, ↓goes_dreg, ↓goes_cond, ↓goes_block, ↓goes_skip, ↓goes_exit, ↓goes_ret, after_some, br_true, br_false, ↓then_normal, ↓then_exit, ↓then_ret, ↓blk_normal, ↓blk_exit, ↓blk_ret, ↓blk_other, ops_nil, ops_some, ops_none, oper_none, oper_some, gd_tt, gd_ff, gd_tf, gd_ft, gd_undef, ↓any_op, ↓any_call, ↓any_callV, ↓any_invoke, xo_t, xo_c, args_nil, args_cons, bin_add, bin_sub, bin_mul, bin_quo, bin_rem, bin_and, bin_or, bin_xor, bin_andNot, bin_eql, bin_neq, bin_lss, bin_leq, bin_gtr, bin_geq, bin_shl, bin_shr, bin_bools, bin_strs, bin_ptrs, bin_slices, bin_aggs, ↓Option.bind_some, ↓Option.map_some, ↓cond_true, ↓cond_false, evC, evOp, XO.lit, setArgs, Tr.get_set, Option.bind_some, Option.map_some, cond_true, cond_false, maxI, maxFrom, minI, minFrom, aConv, aBinE, aEq, eqScal, aUn, evRes, fin, oneOf, if_true, if_false, callee, reduceCtorEq, Nat.reduceEqDiff, and_self, decide_true, decide_false, beq_true, beq_false, Bool.not_true, Bool.not_false, List.getElem?_cons_zero, List.getElem?_cons_succ, beq_self_eq_true, gt_iff_lt, ble_dec, beq_dec, List.head?_cons, AV.undef, eq_self, ne_eq, not_true_eq_false, not_false_eq_true, Int.reduceLT, Int.reduceLE, Int.reduceToNat, Int.reduceEq, Int.reduceNeg, Nat.reduceAdd, Nat.reduceLT, Nat.reduceLeDiff, Nat.reduceMul, Nat.reduceSub, AV.cells, AV.tup, Bool.true_and, true_and, and_true, List.drop_nil, List.append_nil, rd_put, rd_alloc, rdO, St.get_put, St.get_alloc, St.next_put, St.next_alloc, St.wr, Bool.and_self, Bool.and_true, List.length_cons, List.length_nil, List.take_succ_cons, List.take_zero, List.drop_succ_cons, List.drop_zero, List.cons_append, List.nil_append, Nat.zero_add, Nat.add_zero, Nat.reduceMul, aFill, evParts, rep, List.replicate_succ, List.replicate_zero, List.flatten_cons, List.flatten_nil, List.append_nil, newSl, newVar, t10, t11, t30, t31, t32, c1, hix, hz, hA, rA, c2', wj]
      refine ⟨m - 1, ⟨⟨?_, ?_, ?_, ?_, ?_, ?_, ?_⟩, ?_, ?_, ?_, ex.trans eA, j + 1, ?_, by omega, ?_⟩, by show m - 1 < m; omega⟩ <;> simp only [Tr.get_set, Nat.reduceEqDiff, if_false, if_true, t0, t1, t5, t6, t7, t8, t9, t10, t30, t31, hos, Bool.or_true]
    · rw [decide_eq_false c2] at hos
      simp -implicitDefEqProofs -dsimp (maxSteps := 10000000) only [af10_l0, ↓goes_loop, ↓goes_seq, ↓goes_reg, ↓goes_dreg, ↓goes_cond, ↓goes_block, ↓goes_skip, ↓goes_exit, ↓goes_ret, after_some, br_true, br_false, ↓then_normal, ↓then_exit, ↓then_ret, ↓blk_normal, ↓blk_exit, ↓blk_ret, ↓blk_other, ops_nil, ops_some, ops_none, oper_none, oper_some, gd_tt, gd_ff, gd_tf, gd_ft, gd_undef, ↓any_op, ↓any_call, ↓any_callV, ↓any_invoke, xo_t, xo_c, args_nil, args_cons, bin_add, bin_sub, bin_mul, bin_quo, bin_rem, bin_and, bin_or, bin_xor, bin_andNot, bin_eql, bin_neq, bin_lss, bin_leq, bin_gtr, bin_geq, bin_shl, bin_shr, bin_bools, bin_strs, bin_ptrs, bin_slices, bin_aggs, ↓Option.bind_some, ↓Option.map_some, ↓cond_true, ↓cond_false, evC, evOp, XO.lit, setArgs, Tr.get_set, Option.bind_some, Option.map_some, cond_true, cond_false, maxI, maxFrom, minI, minFrom, aConv, aBinE, aEq, eqScal, aUn, evRes, fin, oneOf, if_true, if_false, callee, reduceCtorEq, Nat.reduceEqDiff, and_self, decide_true, decide_false, beq_true, beq_false, Bool.not_true, Bool.not_false, List.getElem?_cons_zero, List.getElem?_cons_succ, beq_self_eq_true, gt_iff_lt, ble_dec, beq_dec, List.head?_cons, AV.undef, eq_self, ne_eq, not_true_eq_false, not_false_eq_true, Int.reduceLT, Int.reduceLE, Int.reduceToNat, Int.reduceEq, Int.reduceNeg, Nat.reduceAdd, Nat.reduceLT, Nat.reduceLeDiff, Nat.reduceMul, Nat.reduceSub, AV.cells, AV.tup, Bool.true_and, true_and, and_true, List.drop_nil, List.append_nil, rd_put, rd_alloc, rdO, St.get_put, St.get_alloc, St.next_put, St.next_alloc, St.wr, Bool.and_self, Bool.and_true, List.length_cons, List.length_nil, List.take_succ_cons, List.take_zero, List.drop_succ_cons, List.drop_zero, List.cons_append, List.nil_append, Nat.zero_add, Nat.add_zero, Nat.reduceMul, aFill, evParts, rep, List.replicate_succ, List.replicate_zero, List.flatten_cons, List.flatten_nil, List.append_nil, newSl, newVar, t10, t11, t30, t31, t32, c1, hix, hz, hA, rA, c2, wj]
      refine ⟨m - 1, ⟨⟨?_, ?_, ?_, ?_, ?_, ?_, ?_⟩, ?_, ?_, ?_, ex.trans eA, j + 1, ?_, by omega, ?_⟩, by show m - 1 < m; omega⟩ <;> simp only [Tr.get_set, Nat.reduceEqDiff, if_false, if_true, t0, t1, t5, t6, t7, t8, t9, t10, t30, t31, hos, Bool.or_false]
structure I10b (v0 v1 v6 v7 v8 v9 : AV) (p : Option (Nat × Nat × Nat)) (c : Option Nat) (e : Nat) (l : List Tp) (Sb : St) (m : Nat) (T : Tm) (S : St) : Prop where
  kp : Kp v0 v1 (.slice p l.length e c) v6 v7 v8 v9 T
  ext : Ext Sb S
  more : ∃ j : Nat, T.get 10 = some (.int .u32 j) ∧ j + m = 10
set_option maxHeartbeats 4000000 in
theorem round10b (k : Nat) {v1 v6 v7 v8 v9 : AV} {p p0 : Option (Nat × Nat × Nat)} {c c0 : Option Nat} {e e0 : Nat} {l raw : List Tp} {Sb : St} (h : Ty Sb p e l) (h0 : Ty Sb p0 e0 raw) (hn : raw.length ≤ 1000) (hr : ∀ t ∈ raw, OkT t) (hln : l.length ≤ 512) (hs : SetP raw l) (m : Nat) (T : Tm) (S : St) (hI : I10b (.slice p0 raw.length e0 c0) v1 v6 v7 v8 v9 p c e l Sb m T S) :
    Goes (evF Y AP (k + 1105)) (k + 1105) af10_l1 T S (Then (fun T' S' => ∃ m', I10b (.slice p0 raw.length e0 c0) v1 v6 v7 v8 v9 p c e l Sb m' T' S' ∧ id m' < id m) fun r T' S' => r = .exit 0 ∧ I10b (.slice p0 raw.length e0 c0) v1 v6 v7 v8 v9 p c e l Sb 0 T' S') := by
  obtain ⟨⟨t0, t1, t5, t6, t7, t8, t9⟩, ex, j, t10, hm⟩ := hI
  have hmx := h.mx
  by_cases c1 : (j : Int) < 10
  rotate_left
  · simp -implicitDefEqProofs -dsimp (maxSteps := 10000000) only [af10_l1, ↓goes_loop, ↓goes_seq, ↓goes_reg, ↓goes_dreg, ↓goes_cond, ↓goes_block, ↓goes_skip, ↓goes_exit, ↓goes_ret, after_some, br_true, br_false, ↓then_normal, ↓then_exit, ↓then_ret, ↓blk_normal, ↓blk_exit, ↓blk_ret, ↓blk_other, ops_nil, ops_some, ops_none, oper_none, oper_some, gd_tt, gd_ff, gd_tf, gd_ft, gd_undef, ↓any_op, ↓any_call, ↓any_callV, ↓any_invoke, xo_t, xo_c, args_nil, args_cons, bin_add, bin_sub, bin_mul, bin_quo, bin_rem, bin_and, bin_or, bin_xor, bin_andNot, bin_eql, bin_neq, bin_lss, bin_leq, bin_gtr, bin_geq, bin_shl, bin_shr, bin_bools, bin_strs, bin_ptrs, bin_slices, bin_aggs, ↓Option.bind_some, ↓Option.map_some, ↓cond_true, ↓cond_false, evC, evOp, XO.lit, setArgs, Tr.get_set, Option.bind_some, Option.map_some, cond_true, cond_false, maxI, maxFrom, minI, minFrom, aConv, aBinE, aEq, eqScal, aUn, evRes, fin, oneOf, if_true, if_false, callee, reduceCtorEq, Nat.reduceEqDiff, and_self, decide_true, decide_false, beq_true, beq_false, Bool.not_true, Bool.not_false, List.getElem?_cons_zero, List.getElem?_cons_succ, beq_self_eq_true, gt_iff_lt, ble_dec, beq_dec, List.head?_cons, AV.undef, eq_self, ne_eq, not_true_eq_false, not_false_eq_true, Int.reduceLT, Int.reduceLE, Int.reduceToNat, Int.reduceEq, Int.reduceNeg, Nat.reduceAdd, Nat.reduceLT, Nat.reduceLeDiff, Nat.reduceMul, Nat.reduceSub, AV.cells, AV.tup, Bool.true_and, true_and, and_true, List.drop_nil, List.append_nil, rd_put, rd_alloc, rdO, St.get_put, St.get_alloc, St.next_put, St.next_alloc, St.wr, Bool.and_self, Bool.and_true, List.length_cons, List.length_nil, List.take_succ_cons, List.take_zero, List.drop_succ_cons, List.drop_zero, List.cons_append, List.nil_append, Nat.zero_add, Nat.add_zero, Nat.reduceMul, t10, c1]
    refine ⟨⟨?_, ?_, ?_, ?_, ?_, ?_, ?_⟩, ex, j, ?_, by omega⟩ <;> simp only [Tr.get_set, Nat.reduceEqDiff, if_false, if_true, t0, t1, t5, t6, t7, t8, t9, t10]
  have wj : IntKind.u32.wrap ((j : Int) + 1) = ((j + 1 : Nat) : Int) := u32_id (by omega) (by omega)
  simp -implicitDefEqProofs -dsimp (maxSteps := 10000000) only [af10_l1, ↓goes_loop, ↓goes_seq, ↓goes_reg, ↓goes_dreg, ↓goes_cond, ↓goes_block, ↓goes_skip, ↓goes_exit, ↓goes_ret, after_some, br_true, br_false, ↓then_normal, ↓then_exit, ↓then_ret, ↓blk_normal, ↓blk_exit, ↓blk_ret, ↓blk_other, ops_nil, ops_some, ops_none, oper_none, oper_some, gd_tt, gd_ff, gd_tf, gd_ft, gd_undef, ↓any_op, ↓any_call, ↓any_callV, ↓any_invoke, xo_t, xo_c, args_nil, args_cons, bin_add, bin_sub, bin_mul, bin_quo, bin_rem, bin_and, bin_or, bin_xor, bin_andNot, bin_eql, bin_neq, bin_lss, bin_leq, bin_gtr, bin_geq, bin_shl, bin_shr, bin_bools, bin_strs, bin_ptrs, bin_slices, bin_aggs, ↓Option.bind_some, ↓Option.map_some, ↓cond_true, ↓cond_false, evC, evOp, XO.lit, setArgs, Tr.get_set, Option.bind_some, Option.map_some, cond_true, cond_false, maxI, maxFrom, minI, minFrom, aConv, aBinE, aEq, eqScal, aUn, evRes, fin, oneOf, if_true, if_false, callee, reduceCtorEq, Nat.reduceEqDiff, and_self, decide_true, decide_false, beq_true, beq_false, Bool.not_true, Bool.not_false, List.getElem?_cons_zero, List.getElem?_cons_succ, beq_self_eq_true, gt_iff_lt, ble_dec, beq_dec, List.head?_cons, AV.undef, eq_self, ne_eq, not_true_eq_false, not_false_eq_true, Int.reduceLT, Int.reduceLE, Int.reduceToNat, Int.reduceEq, Int.reduceNeg, Nat.reduceAdd, Nat.reduceLT, Nat.reduceLeDiff, Nat.reduceMul, Nat.reduceSub, AV.cells, AV.tup, Bool.true_and, true_and, and_true, List.drop_nil, List.append_nil, rd_put, rd_alloc, rdO, St.get_put, St.get_alloc, St.next_put, St.next_alloc, St.wr, Bool.and_self, Bool.and_true, List.length_cons, List.length_nil, List.take_succ_cons, List.take_zero, List.drop_succ_cons, List.drop_zero, List.cons_append, List.nil_append, Nat.zero_add, Nat.add_zero, Nat.reduceMul, t5, t10, c1, hmx]
  refine .while (I10a (.slice p0 raw.length e0 c0) v1 v6 v7 v8 v9 p c e (j : Int) l S) id l.length ⟨⟨?_, ?_, ?_, ?_, ?_, ?_, ?_⟩, ?_, ?_, ?_, .refl _, 0, ?_, by omega, ?_⟩ (by show l.length < k + 1105; omega) fun m2 T2 S2 h2 => (round10a k (h.ext ex) m2 T2 S2 h2).mono ?_
  iterate 12 (first | focus (simp only [Tr.get_set, Nat.reduceEqDiff, if_false, if_true, t0, t1, t5, t6, t7, t8, t9, t10, Int.natCast_zero]; done) | skip)
  · simp only [Tr.get_set, Nat.reduceEqDiff, if_false, if_true]; rfl
  intro r T' S' hq
  cases r with
  | normal => exact hq
  | ret => exact absurd hq.1 (by simp)
  | exit i =>
    obtain ⟨hi, ⟨t0, t1, t5, t6, t7, t8, t9⟩, t10, t30, t31, ex2, jj, t32, hmm, t11⟩ := hq
    cases hi
    obtain rfl : jj = l.length := by omega
    rw [List.take_length] at t11
    have ex' := ex.trans ex2
    obtain ⟨S3, r, h19, x3, hr2⟩ := T19 (k + 1) (c := c0) (h0.ext ex') hn hr (j : Int)
    have h19 : evF Y AP (k + 1105) 19 [.slice p0 raw.length e0 c0, .int .u32 (j : Int)] S' = _ := h19
    rw [hr2.det hs] at h19
    obtain ⟨b, hb⟩ : ∃ b, ownB l (j : Int) = b := ⟨_, rfl⟩
    rw [hb] at h19 t11
    have hne : (!(b == b)) = false := by cases b <;> rfl
    simp -implicitDefEqProofs -dsimp (maxSteps := 10000000) only [↓goes_loop, ↓goes_seq, ↓goes_reg, ↓goes_dreg, ↓goes_cond, ↓goes_block, ↓goes_skip, ↓goes_exit, ↓goes_ret, after_some, br_true, br_false, ↓then_normal, ↓then_exit, ↓then_ret, ↓blk_normal, ↓blk_exit, ↓blk_ret, ↓blk_other, ops_nil, ops_some, ops_none, oper_none, oper_some, gd_tt, gd_ff, gd_tf, gd_ft, gd_undef, ↓any_op, ↓any_call, ↓any_callV, ↓any_invoke, xo_t, xo_c, args_nil, args_cons, bin_add, bin_sub, bin_mul, bin_quo, bin_rem, bin_and, bin_or, bin_xor, bin_andNot, bin_eql, bin_neq, bin_lss, bin_leq, bin_gtr, bin_geq, bin_shl, bin_shr, bin_bools, bin_strs, bin_ptrs, bin_slices, bin_aggs, ↓Option.bind_some, ↓Option.map_some, ↓cond_true, ↓cond_false, evC, evOp, XO.lit, setArgs, Tr.get_set, Option.bind_some, Option.map_some, cond_true, cond_false, maxI, maxFrom, minI, minFrom, aConv, aBinE, aEq, eqScal, aUn, evRes, fin, oneOf, if_true, if_false, callee, reduceCtorEq, Nat.reduceEqDiff, and_self, decide_true, decide_false, beq_true, beq_false, Bool.not_true, Bool.not_false, List.getElem?_cons_zero, List.getElem?_cons_succ, beq_self_eq_true, gt_iff_lt, ble_dec, beq_dec, List.head?_cons, AV.undef, eq_self, ne_eq, not_true_eq_false, not_false_eq_true, Int.reduceLT, Int.reduceLE, Int.reduceToNat, Int.reduceEq, Int.reduceNeg, Nat.reduceAdd, Nat.reduceLT, Nat.reduceLeDiff, Nat.reduceMul, Nat.reduceSub, t0, t10, t11, h19, aBinE, aEq, eqScal, hne, wj]
    refine ⟨m - 1, ⟨⟨?_, ?_, ?_, ?_, ?_, ?_, ?_⟩, ex'.trans x3, j + 1, ?_, by omega⟩, by show m - 1 < m; omega⟩ <;> simp only [Tr.get_set, Nat.reduceEqDiff, if_false, if_true, t0, t1, t5, t6, t7, t8, t9]
theorem rateT_two (l : List Tp) : ∃ n b, rateT l = [.int .u64 n, .bool b] := by
  unfold rateT
  split
  · exact ⟨_, _, rfl⟩
  · exact ⟨_, _, rfl⟩
set_option maxHeartbeats 4000000 in
theorem T10 (k : Nat) {S : St} {p : Option (Nat × Nat × Nat)} {c : Option Nat} {e : Nat} {l : List Tp} (h : Ty S p e l) (hn : l.length ≤ 1000) (hl : ∀ t ∈ l, OkT t) {n : Int} (n0 : 0 ≤ n) :
    ∃ S', evF Y AP (k + 1106) 10 [.slice p l.length e c, .int .u64 n] S = some (.bool true, S') ∧ Ext S S' := by
  suffices hh : ∃ v' S', evF Y AP (k + 1106) 10 [.slice p l.length e c, .int .u64 n] S = some (v', S') ∧ v' = .bool true ∧ Ext S S' by
    obtain ⟨v', S', h1, rfl, h2⟩ := hh; exact ⟨S', h1, h2⟩
  have hmx := h.mx
  obtain ⟨p1, e1, c1, S1, s, h17, ty1, x1, hs, hsl⟩ := T17 (k + 3) (c := c) h hn hl
  have h17 : evF Y AP (k + 1105) 17 [.slice p l.length e c] S = _ := h17
  obtain ⟨S2, h16, x2⟩ := T16 (k + 3) (c := c) (h.ext x1) hn
  have h16 : evF Y AP (k + 1105) 16 [.slice p l.length e c] S1 = _ := h16
  obtain ⟨S3, h18, x3⟩ := T18 (k + 3) (c := c) (h.ext (x1.trans x2)) hn
  have h18 : evF Y AP (k + 1105) 18 [.slice p l.length e c] S2 = _ := h18
  obtain ⟨rn, rb, hrt⟩ := rateT_two l
  rw [hrt] at h16 h18
  refine evF_goes (af := af10) (k := k + 1105) rfl rfl rfl ?_
  simp -implicitDefEqProofs -dsimp (maxSteps := 10000000) only [af10, ↓goes_loop, ↓goes_seq, ↓goes_reg, ↓goes_dreg, ↓goes_cond, ↓goes_block, ↓goes_skip, ↓goes_exit, ↓goes_ret, after_some, br_true, br_false, ↓then_normal, ↓then_exit, ↓then_ret, ↓blk_normal, ↓blk_exit, ↓blk_ret, ↓blk_other, ops_nil, ops_some, ops_none, oper_none, oper_some, gd_tt, gd_ff, gd_tf, gd_ft, gd_undef, ↓any_op, ↓any_call, ↓any_callV, ↓any_invoke, xo_t, xo_c, args_nil, args_cons, bin_add, bin_sub, bin_mul, bin_quo, bin_rem, bin_and, bin_or, bin_xor, bin_andNot, bin_eql, bin_neq, bin_lss, bin_leq, bin_gtr, bin_geq, bin_shl, bin_shr, bin_bools, bin_strs, bin_ptrs, bin_slices, bin_aggs, ↓Option.bind_some, ↓Option.map_some, ↓cond_true, ↓cond_false, evC, evOp, XO.lit, setArgs, Tr.tabG, Tr.tabS, Tr.tabL, Tr.get_lf, Option.bind_some, Option.map_some, cond_true, cond_false, maxI, maxFrom, minI, minFrom, aConv, aBinE, aEq, eqScal, aUn, evRes, fin, oneOf, if_true, if_false, callee, reduceCtorEq, Nat.reduceEqDiff, and_self, decide_true, decide_false, beq_true, beq_false, Bool.not_true, Bool.not_false, List.getElem?_cons_zero, List.getElem?_cons_succ, beq_self_eq_true, gt_iff_lt, ble_dec, beq_dec, List.head?_cons, AV.undef, eq_self, ne_eq, not_true_eq_false, not_false_eq_true, Int.reduceLT, Int.reduceLE, Int.reduceToNat, Int.reduceEq, Int.reduceNeg, Nat.reduceAdd, Nat.reduceLT, Nat.reduceLeDiff, Nat.reduceMul, Nat.reduceSub, h17, h16, h18]
  refine .while (I10b (.slice p l.length e c) (.int .u64 n) (.int .u64 rn) (.bool rb) (.int .u64 rn) (.bool rb) p1 c1 e1 s S3) id 10 ⟨⟨rfl, rfl, rfl, rfl, rfl, rfl, rfl⟩, .refl _, 0, rfl, rfl⟩ (by show 10 < k + 1105; omega) fun m2 T2 S4 h2 => (round10b k (ty1.ext (x2.trans x3)) (h.ext (x1.trans (x2.trans x3))) hn hl hsl hs m2 T2 S4 h2).mono ?_
  intro r T' S' hq
  cases r with
  | normal => exact hq
  | ret => exact absurd hq.1 (by simp)
  | exit i =>
    obtain ⟨hi, ⟨t0, t1, t5, t6, t7, t8, t9⟩, ex, j, t10, hm⟩ := hq
    cases hi
    have e4 := x1.trans (x2.trans (x3.trans ex))
    obtain ⟨p2, e2, c2, S5, s2, h12, ty2, x5, hs2, hsl2⟩ := T12 (k + 3) (c := c) (h.ext e4) hn hl
    have h12 : evF Y AP (k + 1105) 12 [.slice p l.length e c] S' = _ := h12
    have := hs2.det hs
    subst this
    have h14 : evF Y AP (k + 1105) 14 [.slice p2 s2.length e2 c2, .slice p1 s2.length e1 c1] S5 = _ := T14 (k + 3) (c := c2) (c' := c1) ty2 (ty1.ext (x2.trans (x3.trans (ex.trans x5)))) (by omega)
    obtain ⟨S6, h13, x6⟩ := T13 (k + 3) (c := c) (h.ext (e4.trans x5)) hn hl n0
    have h13 : evF Y AP (k + 1105) 13 [.slice p l.length e c, .int .u64 n] S5 = _ := h13
    obtain ⟨S7, h20, x7⟩ := T20 (k + 3) (c := c) (h.ext ((e4.trans x5).trans x6)) hn hl n0
    have h20 : evF Y AP (k + 1105) 20 [.slice p l.length e c, .int .u64 n] S6 = _ := h20
    have hbb : (rb == rb) = true := by cases rb <;> rfl
    simp -implicitDefEqProofs -dsimp (maxSteps := 10000000) only [↓goes_loop, ↓goes_seq, ↓goes_reg, ↓goes_dreg, ↓goes_cond, ↓goes_block, ↓goes_skip, ↓goes_exit, ↓goes_ret, after_some, br_true, br_false, ↓then_normal, ↓then_exit, ↓then_ret, ↓blk_normal, ↓blk_exit, ↓blk_ret, ↓blk_other, ops_nil, ops_some, ops_none, oper_none, oper_some, gd_tt, gd_ff, gd_tf, gd_ft, gd_undef, ↓any_op, ↓any_call, ↓any_callV, ↓any_invoke, xo_t, xo_c, args_nil, args_cons, bin_add, bin_sub, bin_mul, bin_quo, bin_rem, bin_and, bin_or, bin_xor, bin_andNot, bin_eql, bin_neq, bin_lss, bin_leq, bin_gtr, bin_geq, bin_shl, bin_shr, bin_bools, bin_strs, bin_ptrs, bin_slices, bin_aggs, ↓Option.bind_some, ↓Option.map_some, ↓cond_true, ↓cond_false, evC, evOp, XO.lit, setArgs, Tr.get_set, Option.bind_some, Option.map_some, cond_true, cond_false, maxI, maxFrom, minI, minFrom, aConv, aBinE, aEq, eqScal, aUn, evRes, fin, oneOf, if_true, if_false, callee, reduceCtorEq, Nat.reduceEqDiff, and_self, decide_true, decide_false, beq_true, beq_false, Bool.not_true, Bool.not_false, List.getElem?_cons_zero, List.getElem?_cons_succ, beq_self_eq_true, gt_iff_lt, ble_dec, beq_dec, List.head?_cons, AV.undef, eq_self, ne_eq, not_true_eq_false, not_false_eq_true, Int.reduceLT, Int.reduceLE, Int.reduceToNat, Int.reduceEq, Int.reduceNeg, Nat.reduceAdd, Nat.reduceLT, Nat.reduceLeDiff, Nat.reduceMul, Nat.reduceSub, t0, t1, t5, t6, t7, t8, t9, h12, h14, h13, h20, aBinE, aEq, eqScal, hbb]
    exact ⟨_, _, rfl, rfl, e4.trans (x5.trans (x6.trans x7))⟩
end Go.Proofs.YtkbooepiomobdaaA
