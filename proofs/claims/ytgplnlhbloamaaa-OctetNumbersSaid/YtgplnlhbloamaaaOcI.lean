/- Chapter 1: OctetNumbers. -/
import Derived.Test.YtgplnlhbloamaaaOcH
set_option linter.unusedVariables false
set_option linter.unusedSimpArgs false
set_option maxRecDepth 10000
namespace Go.Proofs.YtgplnlhbloamaaaA
open Go.RowKit
attribute [local congr] bind_congr1 map_congr1 cond_congr1 withX_congr after_congr br_congr gd_congr

def twelve : List Nat := [116, 119, 101, 108, 118, 101, 32, 98, 121, 116, 101, 115]
structure J1 (o : Nat) (z : Int) (Sb : St) (m : Nat) (T : Tm) (S : St) : Prop where
  t1 : T.get 1 = some (.slice (some (o, 0, 0)) 12 1 none)
  t2 : T.get 2 = some (.int .i64 z)
  ext : Ext Sb S
  more : ∃ a : Int, T.get 3 = some (.int .i64 a) ∧ -2 ≤ a ∧ a ≤ 15 ∧ (m : Int) = 15 - a
structure J2 (o : Nat) (Sb : St) (m : Nat) (T : Tm) (S : St) : Prop where
  t1 : T.get 1 = some (.slice (some (o, 0, 0)) 12 1 none)
  ext : Ext Sb S
  more : ∃ z : Int, T.get 2 = some (.int .i64 z) ∧ -2 ≤ z ∧ z ≤ 14 ∧ (m : Int) = 14 - z
structure J0 (o o2 : Nat) (Sb : St) (m : Nat) (T : Tm) (S : St) : Prop where
  t1 : T.get 1 = some (.slice (some (o, 0, 0)) 12 1 none)
  t39 : T.get 39 = some (.slice (some (o2, 0, 0)) 5 1 none)
  t40 : T.get 40 = some (.int .i64 5)
  ext : Ext Sb S
  more : ∃ j : Nat, T.get 41 = some (.int .i64 j) ∧ j + m = 5
section
variable {Sb : St} {o o2 : Nat} (k : Nat)
set_option maxHeartbeats 4000000 in
theorem roundJ1 (h : By Sb (some (o, 0, 0)) 1 twelve) {z : Int} (hz : I64 z) (m : Nat) (T : Tm) (S : St) (hI : J1 o z Sb m T S) :
    Goes (evF X0 AP (k + 80)) (k + 80) af3_l1 T S (Then (fun T' S' => ∃ m', J1 o z Sb m' T' S' ∧ id m' < id m) fun r T' S' => r = .exit 2 ∧ ∃ m', J1 o z Sb m' T' S') := by
  obtain ⟨t1, t2, x0, a, t3, a0, a1, hm⟩ := hI
  by_cases c0 : a < 15
  · have h0 := h.ext x0
    obtain ⟨S1, r1, x1⟩ := T8 k (c := none) h0 (by decide) (n := IntKind.u64.wrap (IntKind.u64.wrap (IntKind.u64.wrap a * 2 ^ min 40 IntKind.u64.bits) + 77)) (a := a) (z := z) ⟨by omega, by omega⟩ hz
    obtain ⟨p7, e7, c7, hcut, hb7⟩ := h.cut none (lo := none) (hi := some (.int .i64 5)) (a := 0) (b := 5) (bnd_some (by omega) (by decide)) rfl (by omega) (by decide)
    have hq5 : ((twelve.drop 0).take (5 - 0)).length ≤ 140737488351500 := by decide
    generalize (twelve.drop 0).take (5 - 0) = q at hcut hb7 hq5
    obtain ⟨S2, r2, x2⟩ := T8 k (c := c7) (hb7.ext (x0.trans x1)) hq5 (n := 9223372036854775808) (a := a) (z := z) ⟨by omega, by omega⟩ hz
    obtain ⟨S3, r3, x3⟩ := T8 k (c := none) (By.zero S2 0) (by decide) (n := 5) (a := a) (z := z) ⟨by omega, by omega⟩ hz
    have r1 : evF X0 AP (k + 80) 8 [.slice (some (o, 0, 0)) 12 1 none, _, _, _] S = _ := r1
    have r2 : evF X0 AP (k + 80) 8 [.slice p7 q.length e7 c7, _, _, _] S1 = _ := r2
    have r3 : evF X0 AP (k + 80) 8 [.slice none 0 0 none, _, _, _] S2 = _ := r3
    have hcut : aCut 1 (.slice (some (o, 0, 0)) 12 1 none) none (some (.int .i64 5)) none = _ := hcut
    have w1 : IntKind.i64.wrap (a + 1) = a + 1 := w64_id (by omega) (by omega)
    simp -implicitDefEqProofs -dsimp (maxSteps := 10000000) only [af3_l1, ↓goes_loop, ↓goes_seq, ↓goes_reg, ↓goes_dreg, ↓goes_cond, ↓goes_block, ↓goes_skip, ↓goes_exit, ↓goes_ret, after_some, br_true, br_false, ↓then_normal, ↓then_exit, ↓then_ret, ↓blk_normal, ↓blk_exit, ↓blk_ret, ↓blk_other, ops_nil, ops_some, ops_none, oper_none, oper_some, gd_tt, gd_ff, gd_tf, gd_ft, gd_undef, ↓any_op, ↓any_call, ↓any_callV, ↓any_invoke, xo_t, xo_c, args_nil, args_cons, bin_add, bin_sub, bin_mul, bin_quo, bin_rem, bin_and, bin_or, bin_xor, bin_andNot, bin_eql, bin_neq, bin_lss, bin_leq, bin_gtr, bin_geq, bin_shl, bin_shr, bin_bools, bin_strs, bin_ptrs, bin_slices, bin_aggs, ↓Option.bind_some, ↓Option.map_some, ↓cond_true, ↓cond_false, evC, evOp, XO.lit, setArgs, Tr.get_set, Option.bind_some, Option.map_some, cond_true, cond_false, maxI, maxFrom, minI, minFrom, aBinE, aEq, eqScal, aUn, evRes, fin, oneOf, if_true, if_false, callee, reduceCtorEq, Nat.reduceEqDiff, and_self, decide_true, decide_false, beq_true, beq_false, Bool.not_true, Bool.not_false, List.getElem?_cons_zero, List.getElem?_cons_succ, beq_self_eq_true, gt_iff_lt, ble_dec, beq_dec, List.head?_cons, AV.undef, eq_self, ne_eq, not_true_eq_false, not_false_eq_true, Int.reduceLT, Int.reduceLE, Int.reduceToNat, Int.reduceEq, Int.reduceNeg, Nat.reduceAdd, Nat.reduceLT, Nat.reduceLeDiff, Nat.reduceMul, Nat.reduceSub, AV.cells, AV.tup, Bool.true_and, true_and, and_true, List.drop_nil, List.append_nil, rd_put, rd_alloc, rdO, St.get_put, St.get_alloc, St.next_put, St.next_alloc, St.wr, Bool.and_self, Bool.and_true, List.length_cons, List.length_nil, List.take_succ_cons, List.take_zero, List.drop_succ_cons, List.drop_zero, List.cons_append, List.nil_append, Nat.zero_add, Nat.add_zero, Nat.reduceMul, conv_int, evOpt, t1, t2, t3, c0, r1, r2, r3, hcut, w1]
    refine ⟨m - 1, ⟨?_, ?_, ((x0.trans x1).trans x2).trans x3, a + 1, ?_, by omega, by omega, by omega⟩, by simp only [id]; omega⟩
    all_goals simp only [Tr.get_set, Nat.reduceEqDiff, if_false, if_true, t1, t2]
  · simp -implicitDefEqProofs -dsimp (maxSteps := 10000000) only [af3_l1, ↓goes_loop, ↓goes_seq, ↓goes_reg, ↓goes_dreg, ↓goes_cond, ↓goes_block, ↓goes_skip, ↓goes_exit, ↓goes_ret, after_some, br_true, br_false, ↓then_normal, ↓then_exit, ↓then_ret, ↓blk_normal, ↓blk_exit, ↓blk_ret, ↓blk_other, ops_nil, ops_some, ops_none, oper_none, oper_some, gd_tt, gd_ff, gd_tf, gd_ft, gd_undef, ↓any_op, ↓any_call, ↓any_callV, ↓any_invoke, xo_t, xo_c, args_nil, args_cons, bin_add, bin_sub, bin_mul, bin_quo, bin_rem, bin_and, bin_or, bin_xor, bin_andNot, bin_eql, bin_neq, bin_lss, bin_leq, bin_gtr, bin_geq, bin_shl, bin_shr, bin_bools, bin_strs, bin_ptrs, bin_slices, bin_aggs, ↓Option.bind_some, ↓Option.map_some, ↓cond_true, ↓cond_false, evC, evOp, XO.lit, setArgs, Tr.get_set, Option.bind_some, Option.map_some, cond_true, cond_false, maxI, maxFrom, minI, minFrom, aConv, aBinE, aEq, eqScal, aUn, evRes, fin, oneOf, if_true, if_false, callee, reduceCtorEq, Nat.reduceEqDiff, and_self, decide_true, decide_false, beq_true, beq_false, Bool.not_true, Bool.not_false, List.getElem?_cons_zero, List.getElem?_cons_succ, beq_self_eq_true, gt_iff_lt, ble_dec, beq_dec, List.head?_cons, AV.undef, eq_self, ne_eq, not_true_eq_false, not_false_eq_true, Int.reduceLT, Int.reduceLE, Int.reduceToNat, Int.reduceEq, Int.reduceNeg, Nat.reduceAdd, Nat.reduceLT, Nat.reduceLeDiff, Nat.reduceMul, Nat.reduceSub, AV.cells, AV.tup, Bool.true_and, true_and, and_true, List.drop_nil, List.append_nil, rd_put, rd_alloc, rdO, St.get_put, St.get_alloc, St.next_put, St.next_alloc, St.wr, Bool.and_self, Bool.and_true, List.length_cons, List.length_nil, List.take_succ_cons, List.take_zero, List.drop_succ_cons, List.drop_zero, List.cons_append, List.nil_append, Nat.zero_add, Nat.add_zero, Nat.reduceMul, t1, t2, t3, c0]
    refine ⟨m, ?_, ?_, x0, a, ?_, a0, a1, hm⟩
    all_goals simp only [Tr.get_set, Nat.reduceEqDiff, if_false, if_true, t1, t2, t3]
set_option maxHeartbeats 4000000 in
theorem roundJ2 (h : By Sb (some (o, 0, 0)) 1 twelve) (m : Nat) (T : Tm) (S : St) (hI : J2 o Sb m T S) :
    Goes (evF X0 AP (k + 80)) (k + 80) af3_l2 T S (Then (fun T' S' => ∃ m', J2 o Sb m' T' S' ∧ id m' < id m) fun r T' S' => r = .exit 0 ∧ ∃ m', J2 o Sb m' T' S') := by
  obtain ⟨t1, x0, z, t2, z0, z1, hm⟩ := hI
  by_cases c0 : z < 14
  · have w1 : IntKind.i64.wrap (z + 1) = z + 1 := w64_id (by omega) (by omega)
    simp -implicitDefEqProofs -dsimp (maxSteps := 10000000) only [af3_l2, ↓goes_loop, ↓goes_seq, ↓goes_reg, ↓goes_dreg, ↓goes_cond, ↓goes_block, ↓goes_skip, ↓goes_exit, ↓goes_ret, after_some, br_true, br_false, ↓then_normal, ↓then_exit, ↓then_ret, ↓blk_normal, ↓blk_exit, ↓blk_ret, ↓blk_other, ops_nil, ops_some, ops_none, oper_none, oper_some, gd_tt, gd_ff, gd_tf, gd_ft, gd_undef, ↓any_op, ↓any_call, ↓any_callV, ↓any_invoke, xo_t, xo_c, args_nil, args_cons, bin_add, bin_sub, bin_mul, bin_quo, bin_rem, bin_and, bin_or, bin_xor, bin_andNot, bin_eql, bin_neq, bin_lss, bin_leq, bin_gtr, bin_geq, bin_shl, bin_shr, bin_bools, bin_strs, bin_ptrs, bin_slices, bin_aggs, ↓Option.bind_some, ↓Option.map_some, ↓cond_true, ↓cond_false, evC, evOp, XO.lit, setArgs, Tr.get_set, Option.bind_some, Option.map_some, cond_true, cond_false, maxI, maxFrom, minI, minFrom, aConv, aBinE, aEq, eqScal, aUn, evRes, fin, oneOf, if_true, if_false, callee, reduceCtorEq, Nat.reduceEqDiff, and_self, decide_true, decide_false, beq_true, beq_false, Bool.not_true, Bool.not_false, List.getElem?_cons_zero, List.getElem?_cons_succ, beq_self_eq_true, gt_iff_lt, ble_dec, beq_dec, List.head?_cons, AV.undef, eq_self, ne_eq, not_true_eq_false, not_false_eq_true, Int.reduceLT, Int.reduceLE, Int.reduceToNat, Int.reduceEq, Int.reduceNeg, Nat.reduceAdd, Nat.reduceLT, Nat.reduceLeDiff, Nat.reduceMul, Nat.reduceSub, AV.cells, AV.tup, Bool.true_and, true_and, and_true, List.drop_nil, List.append_nil, rd_put, rd_alloc, rdO, St.get_put, St.get_alloc, St.next_put, St.next_alloc, St.wr, Bool.and_self, Bool.and_true, List.length_cons, List.length_nil, List.take_succ_cons, List.take_zero, List.drop_succ_cons, List.drop_zero, List.cons_append, List.nil_append, Nat.zero_add, Nat.add_zero, Nat.reduceMul, t1, t2, c0]
    refine .while (J1 o z Sb) id 17 ⟨?_, ?_, x0, -2, ?_, by omega, by omega, by omega⟩ (by show 17 < k + 80; omega) fun m2 T2 S2 h2 => (roundJ1 k h ⟨by omega, by omega⟩ m2 T2 S2 h2).mono ?_
    iterate 3 (simp only [Tr.get_set, Nat.reduceEqDiff, if_false, if_true, t1, t2])
    intro r T' S' hq
    cases r with
    | normal => exact hq
    | ret => exact absurd hq.1 (by simp)
    | exit i =>
      obtain ⟨hi, m', t1, t2, x1, a, t3, a0, a1, hm'⟩ := hq
      cases hi
      simp -implicitDefEqProofs -dsimp (maxSteps := 10000000) only [↓goes_loop, ↓goes_seq, ↓goes_reg, ↓goes_dreg, ↓goes_cond, ↓goes_block, ↓goes_skip, ↓goes_exit, ↓goes_ret, after_some, br_true, br_false, ↓then_normal, ↓then_exit, ↓then_ret, ↓blk_normal, ↓blk_exit, ↓blk_ret, ↓blk_other, ops_nil, ops_some, ops_none, oper_none, oper_some, gd_tt, gd_ff, gd_tf, gd_ft, gd_undef, ↓any_op, ↓any_call, ↓any_callV, ↓any_invoke, xo_t, xo_c, args_nil, args_cons, bin_add, bin_sub, bin_mul, bin_quo, bin_rem, bin_and, bin_or, bin_xor, bin_andNot, bin_eql, bin_neq, bin_lss, bin_leq, bin_gtr, bin_geq, bin_shl, bin_shr, bin_bools, bin_strs, bin_ptrs, bin_slices, bin_aggs, ↓Option.bind_some, ↓Option.map_some, ↓cond_true, ↓cond_false, evC, evOp, XO.lit, setArgs, Tr.get_set, Option.bind_some, Option.map_some, cond_true, cond_false, maxI, maxFrom, minI, minFrom, aConv, aBinE, aEq, eqScal, aUn, evRes, fin, oneOf, if_true, if_false, callee, reduceCtorEq, Nat.reduceEqDiff, and_self, decide_true, decide_false, beq_true, beq_false, Bool.not_true, Bool.not_false, List.getElem?_cons_zero, List.getElem?_cons_succ, beq_self_eq_true, gt_iff_lt, ble_dec, beq_dec, List.head?_cons, AV.undef, eq_self, ne_eq, not_true_eq_false, not_false_eq_true, Int.reduceLT, Int.reduceLE, Int.reduceToNat, Int.reduceEq, Int.reduceNeg, Nat.reduceAdd, Nat.reduceLT, Nat.reduceLeDiff, Nat.reduceMul, Nat.reduceSub, AV.cells, AV.tup, Bool.true_and, true_and, and_true, List.drop_nil, List.append_nil, rd_put, rd_alloc, rdO, St.get_put, St.get_alloc, St.next_put, St.next_alloc, St.wr, Bool.and_self, Bool.and_true, List.length_cons, List.length_nil, List.take_succ_cons, List.take_zero, List.drop_succ_cons, List.drop_zero, List.cons_append, List.nil_append, Nat.zero_add, Nat.add_zero, Nat.reduceMul, t1, t2, w1]
      refine ⟨m - 1, ⟨?_, x1, z + 1, ?_, by omega, by omega, by omega⟩, by simp only [id]; omega⟩
      all_goals simp only [Tr.get_set, Nat.reduceEqDiff, if_false, if_true, t1, t2]
  · simp -implicitDefEqProofs -dsimp (maxSteps := 10000000) only [af3_l2, ↓goes_loop, ↓goes_seq, ↓goes_reg, ↓goes_dreg, ↓goes_cond, ↓goes_block, ↓goes_skip, ↓goes_exit, ↓goes_ret, after_some, br_true, br_false, ↓then_normal, ↓then_exit, ↓then_ret, ↓blk_normal, ↓blk_exit, ↓blk_ret, ↓blk_other, ops_nil, ops_some, ops_none, oper_none, oper_some, gd_tt, gd_ff, gd_tf, gd_ft, gd_undef, ↓any_op, ↓any_call, ↓any_callV, ↓any_invoke, xo_t, xo_c, args_nil, args_cons, bin_add, bin_sub, bin_mul, bin_quo, bin_rem, bin_and, bin_or, bin_xor, bin_andNot, bin_eql, bin_neq, bin_lss, bin_leq, bin_gtr, bin_geq, bin_shl, bin_shr, bin_bools, bin_strs, bin_ptrs, bin_slices, bin_aggs, ↓Option.bind_some, ↓Option.map_some, ↓cond_true, ↓cond_false, evC, evOp, XO.lit, setArgs, Tr.get_set, Option.bind_some, Option.map_some, cond_true, cond_false, maxI, maxFrom, minI, minFrom, aConv, aBinE, aEq, eqScal, aUn, evRes, fin, oneOf, if_true, if_false, callee, reduceCtorEq, Nat.reduceEqDiff, and_self, decide_true, decide_false, beq_true, beq_false, Bool.not_true, Bool.not_false, List.getElem?_cons_zero, List.getElem?_cons_succ, beq_self_eq_true, gt_iff_lt, ble_dec, beq_dec, List.head?_cons, AV.undef, eq_self, ne_eq, not_true_eq_false, not_false_eq_true, Int.reduceLT, Int.reduceLE, Int.reduceToNat, Int.reduceEq, Int.reduceNeg, Nat.reduceAdd, Nat.reduceLT, Nat.reduceLeDiff, Nat.reduceMul, Nat.reduceSub, AV.cells, AV.tup, Bool.true_and, true_and, and_true, List.drop_nil, List.append_nil, rd_put, rd_alloc, rdO, St.get_put, St.get_alloc, St.next_put, St.next_alloc, St.wr, Bool.and_self, Bool.and_true, List.length_cons, List.length_nil, List.take_succ_cons, List.take_zero, List.drop_succ_cons, List.drop_zero, List.cons_append, List.nil_append, Nat.zero_add, Nat.add_zero, Nat.reduceMul, t1, t2, c0]
    refine ⟨m, ?_, x0, z, ?_, z0, z1, hm⟩
    all_goals simp only [Tr.get_set, Nat.reduceEqDiff, if_false, if_true, t1, t2]
set_option maxHeartbeats 4000000 in
theorem roundJ0 (h : By Sb (some (o, 0, 0)) 1 twelve) (hs : Sl Sb (some (o2, 0, 0)) 5 [.int .i64]) (ho : o2 < Sb.next) (m : Nat) (T : Tm) (S : St) (hI : J0 o o2 Sb m T S) :
    Goes (evF X0 AP (k + 80)) (k + 80) af3_l0 T S (Then (fun T' S' => ∃ m', J0 o o2 Sb m' T' S' ∧ id m' < id m) fun r T' S' => r = .exit 4 ∧ ∃ m', J0 o o2 Sb m' T' S') := by
  obtain ⟨t1, t39, t40, x0, j, t41, hj⟩ := hI
  by_cases c0 : (j : Int) < 5
  · have hix : ixOf (.int .i64 (j : Int)) 5 = some j := by rw [ix_ok (by omega) c0]; rfl
    obtain ⟨n, hrd, hw⟩ := hs.int (j := (j : Int)) (by omega) c0
    rw [show ((j : Nat) : Int).toNat = j from rfl] at hrd
    have hrd : S.rd o2 0 (j * 1) 1 = some [.int .i64 n] := by rw [x0.rd ho, ← Nat.zero_add (j * 1)]; exact hrd
    have hn := wf_i64 hw
    have h0 := h.ext x0
    obtain ⟨S1, r1, x1⟩ := T8 k (c := none) h0 (by decide) (n := 9) (a := n) (z := 2) hn ⟨by decide, by decide⟩
    obtain ⟨S2, r2, x2⟩ := T8 k (c := none) (h0.ext x1) (by decide) (n := 9) (a := 2) (z := n) ⟨by decide, by decide⟩ hn
    obtain ⟨S3, r3, x3⟩ := T8 k (c := none) ((h0.ext x1).ext x2) (by decide) (n := 9) (a := n) (z := n) hn hn
    have r1 : evF X0 AP (k + 80) 8 [.slice (some (o, 0, 0)) 12 1 none, _, _, _] S = _ := r1
    have r2 : evF X0 AP (k + 80) 8 [.slice (some (o, 0, 0)) 12 1 none, _, _, _] S1 = _ := r2
    have r3 : evF X0 AP (k + 80) 8 [.slice (some (o, 0, 0)) 12 1 none, _, _, _] S2 = _ := r3
    have w1 : IntKind.i64.wrap ((j : Int) + 1) = ((j + 1 : Nat) : Int) := w64_id (by omega) (by omega)
    simp -implicitDefEqProofs -dsimp (maxSteps := 10000000) only [af3_l0, ↓goes_loop, ↓goes_seq, ↓goes_reg, ↓goes_dreg, ↓goes_cond, ↓goes_block, ↓goes_skip, ↓goes_exit, ↓goes_ret, after_some, br_true, br_false, ↓then_normal, ↓then_exit, ↓then_ret, ↓blk_normal, ↓blk_exit, ↓blk_ret, ↓blk_other, ops_nil, ops_some, ops_none, oper_none, oper_some, gd_tt, gd_ff, gd_tf, gd_ft, gd_undef, ↓any_op, ↓any_call, ↓any_callV, ↓any_invoke, xo_t, xo_c, args_nil, args_cons, bin_add, bin_sub, bin_mul, bin_quo, bin_rem, bin_and, bin_or, bin_xor, bin_andNot, bin_eql, bin_neq, bin_lss, bin_leq, bin_gtr, bin_geq, bin_shl, bin_shr, bin_bools, bin_strs, bin_ptrs, bin_slices, bin_aggs, ↓Option.bind_some, ↓Option.map_some, ↓cond_true, ↓cond_false, evC, evOp, XO.lit, setArgs, Tr.get_set, Option.bind_some, Option.map_some, cond_true, cond_false, maxI, maxFrom, minI, minFrom, aConv, aBinE, aEq, eqScal, aUn, evRes, fin, oneOf, if_true, if_false, callee, reduceCtorEq, Nat.reduceEqDiff, and_self, decide_true, decide_false, beq_true, beq_false, Bool.not_true, Bool.not_false, List.getElem?_cons_zero, List.getElem?_cons_succ, beq_self_eq_true, gt_iff_lt, ble_dec, beq_dec, List.head?_cons, AV.undef, eq_self, ne_eq, not_true_eq_false, not_false_eq_true, Int.reduceLT, Int.reduceLE, Int.reduceToNat, Int.reduceEq, Int.reduceNeg, Nat.reduceAdd, Nat.reduceLT, Nat.reduceLeDiff, Nat.reduceMul, Nat.reduceSub, AV.cells, AV.tup, Bool.true_and, true_and, and_true, List.drop_nil, List.append_nil, rd_put, rd_alloc, rdO, St.get_put, St.get_alloc, St.next_put, St.next_alloc, St.wr, Bool.and_self, Bool.and_true, List.length_cons, List.length_nil, List.take_succ_cons, List.take_zero, List.drop_succ_cons, List.drop_zero, List.cons_append, List.nil_append, Nat.zero_add, Nat.add_zero, Nat.reduceMul, t1, t39, t40, t41, c0, hix, hrd, r1, r2, r3, w1]
    refine ⟨m - 1, ⟨?_, ?_, ?_, ((x0.trans x1).trans x2).trans x3, j + 1, ?_, by omega⟩, by simp only [id]; omega⟩
    all_goals simp only [Tr.get_set, Nat.reduceEqDiff, if_false, if_true, t1, t39, t40]
  · simp -implicitDefEqProofs -dsimp (maxSteps := 10000000) only [af3_l0, ↓goes_loop, ↓goes_seq, ↓goes_reg, ↓goes_dreg, ↓goes_cond, ↓goes_block, ↓goes_skip, ↓goes_exit, ↓goes_ret, after_some, br_true, br_false, ↓then_normal, ↓then_exit, ↓then_ret, ↓blk_normal, ↓blk_exit, ↓blk_ret, ↓blk_other, ops_nil, ops_some, ops_none, oper_none, oper_some, gd_tt, gd_ff, gd_tf, gd_ft, gd_undef, ↓any_op, ↓any_call, ↓any_callV, ↓any_invoke, xo_t, xo_c, args_nil, args_cons, bin_add, bin_sub, bin_mul, bin_quo, bin_rem, bin_and, bin_or, bin_xor, bin_andNot, bin_eql, bin_neq, bin_lss, bin_leq, bin_gtr, bin_geq, bin_shl, bin_shr, bin_bools, bin_strs, bin_ptrs, bin_slices, bin_aggs, ↓Option.bind_some, ↓Option.map_some, ↓cond_true, ↓cond_false, evC, evOp, XO.lit, setArgs, Tr.get_set, Option.bind_some, Option.map_some, cond_true, cond_false, maxI, maxFrom, minI, minFrom, aConv, aBinE, aEq, eqScal, aUn, evRes, fin, oneOf, if_true, if_false, callee, reduceCtorEq, Nat.reduceEqDiff, and_self, decide_true, decide_false, beq_true, beq_false, Bool.not_true, Bool.not_false, List.getElem?_cons_zero, List.getElem?_cons_succ, beq_self_eq_true, gt_iff_lt, ble_dec, beq_dec, List.head?_cons, AV.undef, eq_self, ne_eq, not_true_eq_false, not_false_eq_true, Int.reduceLT, Int.reduceLE, Int.reduceToNat, Int.reduceEq, Int.reduceNeg, Nat.reduceAdd, Nat.reduceLT, Nat.reduceLeDiff, Nat.reduceMul, Nat.reduceSub, AV.cells, AV.tup, Bool.true_and, true_and, and_true, List.drop_nil, List.append_nil, rd_put, rd_alloc, rdO, St.get_put, St.get_alloc, St.next_put, St.next_alloc, St.wr, Bool.and_self, Bool.and_true, List.length_cons, List.length_nil, List.take_succ_cons, List.take_zero, List.drop_succ_cons, List.drop_zero, List.cons_append, List.nil_append, Nat.zero_add, Nat.add_zero, Nat.reduceMul, t1, t39, t40, t41, c0]
    refine ⟨m, ?_, ?_, ?_, x0, j, ?_, hj⟩
    all_goals simp only [Tr.get_set, Nat.reduceEqDiff, if_false, if_true, t1, t39, t40, t41]
set_option maxHeartbeats 4000000 in
theorem ev3 (S : St) : ∃ S', evF X0 AP (k + 81) 3 [] S = some (.bool true, S') := by
  suffices hh : ∃ v S', evF X0 AP (k + 81) 3 [] S = some (v, S') ∧ v = .bool true by
    obtain ⟨v, S', h1, rfl⟩ := hh; exact ⟨S', h1⟩
  have b0 : By (S.alloc (.cells (bv twelve) 0 0 true)) (some (S.next, 0, 0)) 1 twelve := .lit (by unfold Byt; decide) (by decide)
  have mk : aConv .mark (.slice (some (S.next, 0, 0)) 12 1 none) (S.alloc (.cells (bv twelve) 0 0 true)) = some (.slice (some (S.next, 0, 0)) 12 1 none, S.alloc (.cells (bv twelve) 0 0 true)) := by
    simp only [aConv, St.get_alloc, if_true]; rfl
  refine evF_goes (af := af3) (k := k + 80) rfl rfl rfl ?_
  obtain ⟨S1, hS1⟩ : ∃ S1, S.alloc (.cells (bv twelve) 0 0 true) = S1 := ⟨_, rfl⟩
  have al : S.alloc (.cells [.int .u8 116, .int .u8 119, .int .u8 101, .int .u8 108, .int .u8 118, .int .u8 101, .int .u8 32, .int .u8 98, .int .u8 121, .int .u8 116, .int .u8 101, .int .u8 115] 0 0 true) = S1 := hS1
  rw [hS1] at b0 mk
  simp -implicitDefEqProofs -dsimp (maxSteps := 10000000) only [af3, ↓goes_loop, ↓goes_seq, ↓goes_reg, ↓goes_dreg, ↓goes_cond, ↓goes_block, ↓goes_skip, ↓goes_exit, ↓goes_ret, after_some, br_true, br_false, ↓then_normal, ↓then_exit, ↓then_ret, ↓blk_normal, ↓blk_exit, ↓blk_ret, ↓blk_other, ops_nil, ops_some, ops_none, oper_none, oper_some, gd_tt, gd_ff, gd_tf, gd_ft, gd_undef, ↓any_op, ↓any_call, ↓any_callV, ↓any_invoke, xo_t, xo_c, args_nil, args_cons, bin_add, bin_sub, bin_mul, bin_quo, bin_rem, bin_and, bin_or, bin_xor, bin_andNot, bin_eql, bin_neq, bin_lss, bin_leq, bin_gtr, bin_geq, bin_shl, bin_shr, bin_bools, bin_strs, bin_ptrs, bin_slices, bin_aggs, ↓Option.bind_some, ↓Option.map_some, ↓cond_true, ↓cond_false, evC, evOp, XO.lit, setArgs, Tr.tabG, Tr.tabS, Tr.tabL, Tr.get_lf, Option.bind_some, Option.map_some, cond_true, cond_false, maxI, maxFrom, minI, minFrom, aBinE, aEq, eqScal, aUn, evRes, fin, oneOf, if_true, if_false, callee, reduceCtorEq, Nat.reduceEqDiff, and_self, decide_true, decide_false, beq_true, beq_false, Bool.not_true, Bool.not_false, List.getElem?_cons_zero, List.getElem?_cons_succ, beq_self_eq_true, gt_iff_lt, ble_dec, beq_dec, List.head?_cons, AV.undef, eq_self, ne_eq, not_true_eq_false, not_false_eq_true, Int.reduceLT, Int.reduceLE, Int.reduceToNat, Int.reduceEq, Int.reduceNeg, Nat.reduceAdd, Nat.reduceLT, Nat.reduceLeDiff, Nat.reduceMul, Nat.reduceSub, aFill, evParts, rep, List.replicate_succ, List.replicate_zero, List.flatten_cons, List.flatten_nil, List.append_nil, newSl, newVar, AV.cells, AV.tup, Bool.true_and, true_and, and_true, List.drop_nil, List.append_nil, rd_put, rd_alloc, rdO, St.get_put, St.get_alloc, St.next_put, St.next_alloc, St.wr, Bool.and_self, Bool.and_true, List.length_cons, List.length_nil, List.take_succ_cons, List.take_zero, List.drop_succ_cons, List.drop_zero, List.cons_append, List.nil_append, Nat.zero_add, Nat.add_zero, Nat.reduceMul, al, mk]
  refine .while (J2 S.next S1) id 16 ⟨rfl, .refl _, -2, rfl, by omega, by omega, by omega⟩ (by show 16 < k + 80; omega) fun m2 T2 S2 h2 => (roundJ2 k b0 m2 T2 S2 h2).mono ?_
  intro r T' S' hq
  cases r with
  | normal => exact hq
  | ret => exact absurd hq.1 (by simp)
  | exit i =>
    obtain ⟨hi, m', t1, x1, z, t2, z0, z1, hm'⟩ := hq
    cases hi
    simp -implicitDefEqProofs -dsimp (maxSteps := 10000000) only [↓goes_loop, ↓goes_seq, ↓goes_reg, ↓goes_dreg, ↓goes_cond, ↓goes_block, ↓goes_skip, ↓goes_exit, ↓goes_ret, after_some, br_true, br_false, ↓then_normal, ↓then_exit, ↓then_ret, ↓blk_normal, ↓blk_exit, ↓blk_ret, ↓blk_other, ops_nil, ops_some, ops_none, oper_none, oper_some, gd_tt, gd_ff, gd_tf, gd_ft, gd_undef, ↓any_op, ↓any_call, ↓any_callV, ↓any_invoke, xo_t, xo_c, args_nil, args_cons, bin_add, bin_sub, bin_mul, bin_quo, bin_rem, bin_and, bin_or, bin_xor, bin_andNot, bin_eql, bin_neq, bin_lss, bin_leq, bin_gtr, bin_geq, bin_shl, bin_shr, bin_bools, bin_strs, bin_ptrs, bin_slices, bin_aggs, ↓Option.bind_some, ↓Option.map_some, ↓cond_true, ↓cond_false, evC, evOp, XO.lit, setArgs, Tr.get_set, Option.bind_some, Option.map_some, cond_true, cond_false, maxI, maxFrom, minI, minFrom, aConv, aBinE, aEq, eqScal, aUn, evRes, fin, oneOf, if_true, if_false, callee, reduceCtorEq, Nat.reduceEqDiff, and_self, decide_true, decide_false, beq_true, beq_false, Bool.not_true, Bool.not_false, List.getElem?_cons_zero, List.getElem?_cons_succ, beq_self_eq_true, gt_iff_lt, ble_dec, beq_dec, List.head?_cons, AV.undef, eq_self, ne_eq, not_true_eq_false, not_false_eq_true, Int.reduceLT, Int.reduceLE, Int.reduceToNat, Int.reduceEq, Int.reduceNeg, Nat.reduceAdd, Nat.reduceLT, Nat.reduceLeDiff, Nat.reduceMul, Nat.reduceSub, aFill, evParts, rep, List.replicate_succ, List.replicate_zero, List.flatten_cons, List.flatten_nil, List.append_nil, newSl, newVar, AV.cells, AV.tup, Bool.true_and, true_and, and_true, List.drop_nil, List.append_nil, rd_put, rd_alloc, rdO, St.get_put, St.get_alloc, St.next_put, St.next_alloc, St.wr, Bool.and_self, Bool.and_true, List.length_cons, List.length_nil, List.take_succ_cons, List.take_zero, List.drop_succ_cons, List.drop_zero, List.cons_append, List.nil_append, Nat.zero_add, Nat.add_zero, Nat.reduceMul, t1]
    have sl : Sl (S'.alloc (.cells [.int .i64 4611686018427387904, .int .i64 (-9223372036854775808), .int .i64 9223372036854775807, .int .i64 64, .int .i64 65] 0 0 true)) (some (S'.next, 0, 0)) 5 [.int .i64] := .lit S' _ 5 _ (by decide) rfl (by decide)
    refine .while (J0 S.next S'.next (S'.alloc (.cells [.int .i64 4611686018427387904, .int .i64 (-9223372036854775808), .int .i64 9223372036854775807, .int .i64 64, .int .i64 65] 0 0 true))) id 5 ⟨?_, ?_, ?_, .refl _, 0, ?_, by omega⟩ (by show 5 < k + 80; omega)
      fun m2 T2 S2 h2 => (roundJ0 k (b0.ext (x1.then_alloc _)) sl (Nat.lt_succ_self _) m2 T2 S2 h2).mono ?_
    iterate 4 (first | rfl | (simp only [Tr.get_set, Nat.reduceEqDiff, if_false, if_true, t1]; try rfl))
    intro r T' S' hq
    cases r with
    | normal => exact hq
    | ret => exact absurd hq.1 (by simp)
    | exit i =>
      obtain ⟨hi, m', t1, t39, t40, x2, j, t41, hj⟩ := hq
      cases hi
      obtain ⟨S9, r9, x9⟩ := T9 (S := S') k
      simp -implicitDefEqProofs -dsimp (maxSteps := 10000000) only [↓goes_loop, ↓goes_seq, ↓goes_reg, ↓goes_dreg, ↓goes_cond, ↓goes_block, ↓goes_skip, ↓goes_exit, ↓goes_ret, after_some, br_true, br_false, ↓then_normal, ↓then_exit, ↓then_ret, ↓blk_normal, ↓blk_exit, ↓blk_ret, ↓blk_other, ops_nil, ops_some, ops_none, oper_none, oper_some, gd_tt, gd_ff, gd_tf, gd_ft, gd_undef, ↓any_op, ↓any_call, ↓any_callV, ↓any_invoke, xo_t, xo_c, args_nil, args_cons, bin_add, bin_sub, bin_mul, bin_quo, bin_rem, bin_and, bin_or, bin_xor, bin_andNot, bin_eql, bin_neq, bin_lss, bin_leq, bin_gtr, bin_geq, bin_shl, bin_shr, bin_bools, bin_strs, bin_ptrs, bin_slices, bin_aggs, ↓Option.bind_some, ↓Option.map_some, ↓cond_true, ↓cond_false, evC, evOp, XO.lit, setArgs, Tr.get_set, Option.bind_some, Option.map_some, cond_true, cond_false, maxI, maxFrom, minI, minFrom, aConv, aBinE, aEq, eqScal, aUn, evRes, fin, oneOf, if_true, if_false, callee, reduceCtorEq, Nat.reduceEqDiff, and_self, decide_true, decide_false, beq_true, beq_false, Bool.not_true, Bool.not_false, List.getElem?_cons_zero, List.getElem?_cons_succ, beq_self_eq_true, gt_iff_lt, ble_dec, beq_dec, List.head?_cons, AV.undef, eq_self, ne_eq, not_true_eq_false, not_false_eq_true, Int.reduceLT, Int.reduceLE, Int.reduceToNat, Int.reduceEq, Int.reduceNeg, Nat.reduceAdd, Nat.reduceLT, Nat.reduceLeDiff, Nat.reduceMul, Nat.reduceSub, r9]
      exact ⟨_, _, rfl, rfl⟩
theorem law3 : ∃ S', evF X0 AP (0 + 81) 3 [] S0 = some (.bool true, S') := ev3 0 S0
end
end Go.Proofs.YtgplnlhbloamaaaA
