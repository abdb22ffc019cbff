/- Chapter 21: WriteLayers. -/
import Derived.Test.YtdppaegnmdiheaaWrC
set_option linter.unusedVariables false
set_option linter.unusedSimpArgs false
set_option maxRecDepth 10000
namespace Go.Proofs.YtdppaegnmdiheaaA
open Go.RowKit
attribute [local congr] bind_congr1 map_congr1 cond_congr1 withX_congr after_congr br_congr gd_congr

def within (n lo hi : Int) : Int := if lo ≤ n ∧ n ≤ hi then n else lo + n % (hi - lo + 1)
theorem within_bd (n : Int) {lo hi : Int} (h : lo ≤ hi) : lo ≤ within n lo hi ∧ within n lo hi ≤ hi := by
  unfold within
  have h0 := Int.emod_nonneg n (show hi - lo + 1 ≠ 0 by omega)
  have h1 := Int.emod_lt_of_pos n (show 0 < hi - lo + 1 by omega)
  split <;> omega
theorem tmod_up (n m : Int) (hm : 0 < m) : (if Int.tmod n m < 0 then Int.tmod n m + m else Int.tmod n m) = n % m := by
  rw [Int.tmod_eq_emod]
  have h0 := Int.emod_nonneg n (show m ≠ 0 by omega)
  have h1 := Int.emod_lt_of_pos n hm
  split
  · rw [if_neg (by omega)]; omega
  · have hn : ((m.natAbs : Nat) : Int) = m := Int.natAbs_of_nonneg (by omega)
    by_cases hz : n % m = 0
    · rename_i hc
      exact absurd (Or.inr (Int.dvd_of_emod_eq_zero hz)) hc
    · rw [if_pos (by omega)]; omega
theorem T9 (k : Nat) (S : St) {n lo hi : Int} (h : lo ≤ hi) (h0 : -1000 ≤ lo) (h1 : hi ≤ 1000) : evF Y AP (k + 4) 9 [.int .i64 n, .int .i64 lo, .int .i64 hi] S = some (.int .i64 (within n lo hi), S) := by
  rw [evF_body (af := af9) rfl rfl rfl]
  have w1 : IntKind.i64.wrap (hi - lo) = hi - lo := w64_id (by omega) (by omega)
  have w2 : IntKind.i64.wrap (hi - lo + 1) = hi - lo + 1 := w64_id (by omega) (by omega)
  have hne : ¬ hi - lo + 1 = 0 := by omega
  have hu := tmod_up n (hi - lo + 1) (by omega)
  have h2 := Int.emod_nonneg n (show hi - lo + 1 ≠ 0 by omega)
  have h3 := Int.emod_lt_of_pos n (show 0 < hi - lo + 1 by omega)
  obtain ⟨t, ht⟩ : ∃ t, Int.tmod n (hi - lo + 1) = t := ⟨_, rfl⟩
  rw [ht] at hu
  by_cases c1 : lo ≤ n
  · by_cases c2 : n ≤ hi
    · simp -implicitDefEqProofs -dsimp (maxSteps := 10000000) only [af9, ops_nil, ops_some, ops_none, oper_none, oper_some, gd_tt, gd_ff, gd_tf, gd_ft, gd_undef, ↓any_op, ↓any_call, ↓any_callV, ↓any_invoke, xo_t, xo_c, args_nil, args_cons, bin_add, bin_sub, bin_mul, bin_quo, bin_rem, bin_and, bin_or, bin_xor, bin_andNot, bin_eql, bin_neq, bin_lss, bin_leq, bin_gtr, bin_geq, bin_shl, bin_shr, bin_bools, bin_strs, bin_ptrs, bin_slices, bin_aggs, ↓Option.bind_some, ↓Option.map_some, ↓cond_true, ↓cond_false, evC, evOp, XO.lit, setArgs, Tr.tabG, Tr.tabS, Tr.tabL, Tr.get_lf, Option.bind_some, Option.map_some, cond_true, cond_false, maxI, maxFrom, minI, minFrom, aConv, aBinE, aEq, eqScal, aUn, evRes, fin, oneOf, if_true, if_false, callee, reduceCtorEq, Nat.reduceEqDiff, and_self, decide_true, decide_false, beq_true, beq_false, Bool.not_true, Bool.not_false, List.getElem?_cons_zero, List.getElem?_cons_succ, beq_self_eq_true, gt_iff_lt, ble_dec, beq_dec, List.head?_cons, AV.undef, eq_self, ne_eq, not_true_eq_false, not_false_eq_true, Int.reduceLT, Int.reduceLE, Int.reduceToNat, Int.reduceEq, Int.reduceNeg, Nat.reduceAdd, Nat.reduceLT, Nat.reduceLeDiff, Nat.reduceMul, Nat.reduceSub, AV.cells, AV.tup, Bool.true_and, true_and, and_true, List.drop_nil, List.append_nil, rd_put, rd_alloc, rdO, St.get_put, St.get_alloc, St.next_put, St.next_alloc, St.wr, Bool.and_self, Bool.and_true, List.length_cons, List.length_nil, List.take_succ_cons, List.take_zero, List.drop_succ_cons, List.drop_zero, List.cons_append, List.nil_append, Nat.zero_add, Nat.add_zero, Nat.reduceMul, c1, c2]
      simp only [within, c1, c2, and_self, if_true]
    · by_cases c3 : t < 0
      · rw [if_pos c3] at hu
        have w3 : IntKind.i64.wrap (t + hi) = t + hi := w64_id (by omega) (by omega)
        have w4 : IntKind.i64.wrap (t + hi - lo) = t + hi - lo := w64_id (by omega) (by omega)
        have w5 : IntKind.i64.wrap (t + hi - lo + 1) = t + hi - lo + 1 := w64_id (by omega) (by omega)
        have w6 : IntKind.i64.wrap (lo + (t + hi - lo + 1)) = lo + (t + hi - lo + 1) := w64_id (by omega) (by omega)
        simp -implicitDefEqProofs -dsimp (maxSteps := 10000000) only [af9, ops_nil, ops_some, ops_none, oper_none, oper_some, gd_tt, gd_ff, gd_tf, gd_ft, gd_undef, ↓any_op, ↓any_call, ↓any_callV, ↓any_invoke, xo_t, xo_c, args_nil, args_cons, bin_add, bin_sub, bin_mul, bin_quo, bin_rem, bin_and, bin_or, bin_xor, bin_andNot, bin_eql, bin_neq, bin_lss, bin_leq, bin_gtr, bin_geq, bin_shl, bin_shr, bin_bools, bin_strs, bin_ptrs, bin_slices, bin_aggs, ↓Option.bind_some, ↓Option.map_some, ↓cond_true, ↓cond_false, evC, evOp, XO.lit, setArgs, Tr.tabG, Tr.tabS, Tr.tabL, Tr.get_lf, Option.bind_some, Option.map_some, cond_true, cond_false, maxI, maxFrom, minI, minFrom, aConv, aBinE, aEq, eqScal, aUn, evRes, fin, oneOf, if_true, if_false, callee, reduceCtorEq, Nat.reduceEqDiff, and_self, decide_true, decide_false, beq_true, beq_false, Bool.not_true, Bool.not_false, List.getElem?_cons_zero, List.getElem?_cons_succ, beq_self_eq_true, gt_iff_lt, ble_dec, beq_dec, List.head?_cons, AV.undef, eq_self, ne_eq, not_true_eq_false, not_false_eq_true, Int.reduceLT, Int.reduceLE, Int.reduceToNat, Int.reduceEq, Int.reduceNeg, Nat.reduceAdd, Nat.reduceLT, Nat.reduceLeDiff, Nat.reduceMul, Nat.reduceSub, AV.cells, AV.tup, Bool.true_and, true_and, and_true, List.drop_nil, List.append_nil, rd_put, rd_alloc, rdO, St.get_put, St.get_alloc, St.next_put, St.next_alloc, St.wr, Bool.and_self, Bool.and_true, List.length_cons, List.length_nil, List.take_succ_cons, List.take_zero, List.drop_succ_cons, List.drop_zero, List.cons_append, List.nil_append, Nat.zero_add, Nat.add_zero, Nat.reduceMul, c1, c2, c3, ht, w1, w2, w3, w4, w5, w6, hne]
        simp only [within, c2, and_false, if_false]
        congr 3; omega
      · rw [if_neg c3] at hu
        have w6 : IntKind.i64.wrap (lo + t) = lo + t := w64_id (by omega) (by omega)
        simp -implicitDefEqProofs -dsimp (maxSteps := 10000000) only [af9, ops_nil, ops_some, ops_none, oper_none, oper_some, gd_tt, gd_ff, gd_tf, gd_ft, gd_undef, ↓any_op, ↓any_call, ↓any_callV, ↓any_invoke, xo_t, xo_c, args_nil, args_cons, bin_add, bin_sub, bin_mul, bin_quo, bin_rem, bin_and, bin_or, bin_xor, bin_andNot, bin_eql, bin_neq, bin_lss, bin_leq, bin_gtr, bin_geq, bin_shl, bin_shr, bin_bools, bin_strs, bin_ptrs, bin_slices, bin_aggs, ↓Option.bind_some, ↓Option.map_some, ↓cond_true, ↓cond_false, evC, evOp, XO.lit, setArgs, Tr.tabG, Tr.tabS, Tr.tabL, Tr.get_lf, Option.bind_some, Option.map_some, cond_true, cond_false, maxI, maxFrom, minI, minFrom, aConv, aBinE, aEq, eqScal, aUn, evRes, fin, oneOf, if_true, if_false, callee, reduceCtorEq, Nat.reduceEqDiff, and_self, decide_true, decide_false, beq_true, beq_false, Bool.not_true, Bool.not_false, List.getElem?_cons_zero, List.getElem?_cons_succ, beq_self_eq_true, gt_iff_lt, ble_dec, beq_dec, List.head?_cons, AV.undef, eq_self, ne_eq, not_true_eq_false, not_false_eq_true, Int.reduceLT, Int.reduceLE, Int.reduceToNat, Int.reduceEq, Int.reduceNeg, Nat.reduceAdd, Nat.reduceLT, Nat.reduceLeDiff, Nat.reduceMul, Nat.reduceSub, AV.cells, AV.tup, Bool.true_and, true_and, and_true, List.drop_nil, List.append_nil, rd_put, rd_alloc, rdO, St.get_put, St.get_alloc, St.next_put, St.next_alloc, St.wr, Bool.and_self, Bool.and_true, List.length_cons, List.length_nil, List.take_succ_cons, List.take_zero, List.drop_succ_cons, List.drop_zero, List.cons_append, List.nil_append, Nat.zero_add, Nat.add_zero, Nat.reduceMul, c1, c2, c3, ht, w1, w2, w6, hne]
        simp only [within, c2, and_false, if_false, hu]
  · by_cases c3 : t < 0
    · rw [if_pos c3] at hu
      have w3 : IntKind.i64.wrap (t + hi) = t + hi := w64_id (by omega) (by omega)
      have w4 : IntKind.i64.wrap (t + hi - lo) = t + hi - lo := w64_id (by omega) (by omega)
      have w5 : IntKind.i64.wrap (t + hi - lo + 1) = t + hi - lo + 1 := w64_id (by omega) (by omega)
      have w6 : IntKind.i64.wrap (lo + (t + hi - lo + 1)) = lo + (t + hi - lo + 1) := w64_id (by omega) (by omega)
      simp -implicitDefEqProofs -dsimp (maxSteps := 10000000) only [af9, ops_nil, ops_some, ops_none, oper_none, oper_some, gd_tt, gd_ff, gd_tf, gd_ft, gd_undef, ↓any_op, ↓any_call, ↓any_callV, ↓any_invoke, xo_t, xo_c, args_nil, args_cons, bin_add, bin_sub, bin_mul, bin_quo, bin_rem, bin_and, bin_or, bin_xor, bin_andNot, bin_eql, bin_neq, bin_lss, bin_leq, bin_gtr, bin_geq, bin_shl, bin_shr, bin_bools, bin_strs, bin_ptrs, bin_slices, bin_aggs, ↓Option.bind_some, ↓Option.map_some, ↓cond_true, ↓cond_false, evC, evOp, XO.lit, setArgs, Tr.tabG, Tr.tabS, Tr.tabL, Tr.get_lf, Option.bind_some, Option.map_some, cond_true, cond_false, maxI, maxFrom, minI, minFrom, aConv, aBinE, aEq, eqScal, aUn, evRes, fin, oneOf, if_true, if_false, callee, reduceCtorEq, Nat.reduceEqDiff, and_self, decide_true, decide_false, beq_true, beq_false, Bool.not_true, Bool.not_false, List.getElem?_cons_zero, List.getElem?_cons_succ, beq_self_eq_true, gt_iff_lt, ble_dec, beq_dec, List.head?_cons, AV.undef, eq_self, ne_eq, not_true_eq_false, not_false_eq_true, Int.reduceLT, Int.reduceLE, Int.reduceToNat, Int.reduceEq, Int.reduceNeg, Nat.reduceAdd, Nat.reduceLT, Nat.reduceLeDiff, Nat.reduceMul, Nat.reduceSub, AV.cells, AV.tup, Bool.true_and, true_and, and_true, List.drop_nil, List.append_nil, rd_put, rd_alloc, rdO, St.get_put, St.get_alloc, St.next_put, St.next_alloc, St.wr, Bool.and_self, Bool.and_true, List.length_cons, List.length_nil, List.take_succ_cons, List.take_zero, List.drop_succ_cons, List.drop_zero, List.cons_append, List.nil_append, Nat.zero_add, Nat.add_zero, Nat.reduceMul, c1, c3, ht, w1, w2, w3, w4, w5, w6, hne]
      simp only [within, c1, false_and, if_false]
      congr 3; omega
    · rw [if_neg c3] at hu
      have w6 : IntKind.i64.wrap (lo + t) = lo + t := w64_id (by omega) (by omega)
      simp -implicitDefEqProofs -dsimp (maxSteps := 10000000) only [af9, ops_nil, ops_some, ops_none, oper_none, oper_some, gd_tt, gd_ff, gd_tf, gd_ft, gd_undef, ↓any_op, ↓any_call, ↓any_callV, ↓any_invoke, xo_t, xo_c, args_nil, args_cons, bin_add, bin_sub, bin_mul, bin_quo, bin_rem, bin_and, bin_or, bin_xor, bin_andNot, bin_eql, bin_neq, bin_lss, bin_leq, bin_gtr, bin_geq, bin_shl, bin_shr, bin_bools, bin_strs, bin_ptrs, bin_slices, bin_aggs, ↓Option.bind_some, ↓Option.map_some, ↓cond_true, ↓cond_false, evC, evOp, XO.lit, setArgs, Tr.tabG, Tr.tabS, Tr.tabL, Tr.get_lf, Option.bind_some, Option.map_some, cond_true, cond_false, maxI, maxFrom, minI, minFrom, aConv, aBinE, aEq, eqScal, aUn, evRes, fin, oneOf, if_true, if_false, callee, reduceCtorEq, Nat.reduceEqDiff, and_self, decide_true, decide_false, beq_true, beq_false, Bool.not_true, Bool.not_false, List.getElem?_cons_zero, List.getElem?_cons_succ, beq_self_eq_true, gt_iff_lt, ble_dec, beq_dec, List.head?_cons, AV.undef, eq_self, ne_eq, not_true_eq_false, not_false_eq_true, Int.reduceLT, Int.reduceLE, Int.reduceToNat, Int.reduceEq, Int.reduceNeg, Nat.reduceAdd, Nat.reduceLT, Nat.reduceLeDiff, Nat.reduceMul, Nat.reduceSub, AV.cells, AV.tup, Bool.true_and, true_and, and_true, List.drop_nil, List.append_nil, rd_put, rd_alloc, rdO, St.get_put, St.get_alloc, St.next_put, St.next_alloc, St.wr, Bool.and_self, Bool.and_true, List.length_cons, List.length_nil, List.take_succ_cons, List.take_zero, List.drop_succ_cons, List.drop_zero, List.cons_append, List.nil_append, Nat.zero_add, Nat.add_zero, Nat.reduceMul, c1, c3, ht, w1, w2, w6, hne]
      simp only [within, c1, false_and, if_false, hu]
theorem m24 (x : Int) : Go.bits .and .i64 x 16777215 = x % 16777216 := and_i64 24 (by decide) x
structure I4 (p1 p2 : Option (Nat × Nat × Nat)) (n1 n2 : Nat) (o : Nat) (Sb : St) (m : Nat) (T : Tm) (S : St) : Prop where
  t1 : T.get 1 = some (.slice p1 n1 1 none)
  t2 : T.get 2 = some (.slice p2 n2 1 none)
  t9 : T.get 9 = some (pt o)
  ext : Ext Sb S
  lt : o < S.next
  more : ∃ (x : Wr) (i a : Int), T.get 10 = some (.int .i64 x.w) ∧ T.get 11 = some (.int .i64 a) ∧ T.get 12 = some (.int .i64 i) ∧ S.get o = some (wr x) ∧ -1 ≤ x.w ∧ x.w ≤ 2 ∧ (x.l = -1 ∨ x.l = x.w) ∧
    0 ≤ x.i ∧ x.i ≤ a ∧ a ≤ 16777216 + i ∧ 0 ≤ i ∧ i ≤ 60 ∧ (m : Int) = 60 - i
theorem mx1_id {n : Int} (h : -1 ≤ n) : mx1 n = n := by unfold mx1; split <;> omega
set_option maxHeartbeats 16000000 in
theorem round4 (k : Nat) {p1 p2 : Option (Nat × Nat × Nat)} {n1 n2 o : Nat} {Sb : St} (h1 : Sl Sb p1 n1 [.int .i64]) (h2 : Sl Sb p2 n2 [.int .i64]) (ho : Sb.next ≤ o) (m : Nat) (T : Tm) (S : St) (hI : I4 p1 p2 n1 n2 o Sb m T S) :
    Goes (evF Y AP (k + 99)) (k + 99) af4_l0 T S (Then (fun T' S' => ∃ m', I4 p1 p2 n1 n2 o Sb m' T' S' ∧ id m' < id m) fun r T' S' => r = .exit 0 ∧ ∃ m', I4 p1 p2 n1 n2 o Sb m' T' S') := by
  have hm1 := h1.max
  have hm2 := h2.max
  obtain ⟨t1, t2, t9, he, lt, x, i, a, t10, t11, t12, gw, w0, w1, xl, xi, xa, ha, i0, i1, hm⟩ := hI
  by_cases c1 : i < n1
  rotate_left
  · simp -implicitDefEqProofs -dsimp (maxSteps := 10000000) only [af4_l0, ↓goes_loop, ↓goes_seq, ↓goes_reg, ↓goes_dreg, ↓goes_cond, ↓goes_block, ↓goes_skip, ↓goes_exit, ↓goes_ret, after_some, br_true, br_false, ↓then_normal, ↓then_exit, ↓then_ret, ↓blk_normal, ↓blk_exit, ↓blk_ret, ↓blk_other, ops_nil, ops_some, ops_none, oper_none, oper_some, gd_tt, gd_ff, gd_tf, gd_ft, gd_undef, ↓any_op, ↓any_call, ↓any_callV, ↓any_invoke, xo_t, xo_c, args_nil, args_cons, bin_add, bin_sub, bin_mul, bin_quo, bin_rem, bin_and, bin_or, bin_xor, bin_andNot, bin_eql, bin_neq, bin_lss, bin_leq, bin_gtr, bin_geq, bin_shl, bin_shr, bin_bools, bin_strs, bin_ptrs, bin_slices, bin_aggs, ↓Option.bind_some, ↓Option.map_some, ↓cond_true, ↓cond_false, evC, evOp, XO.lit, setArgs, Tr.get_set, Option.bind_some, Option.map_some, cond_true, cond_false, maxI, maxFrom, minI, minFrom, aConv, aBinE, aEq, eqScal, aUn, evRes, fin, oneOf, if_true, if_false, callee, reduceCtorEq, Nat.reduceEqDiff, and_self, decide_true, decide_false, beq_true, beq_false, Bool.not_true, Bool.not_false, List.getElem?_cons_zero, List.getElem?_cons_succ, beq_self_eq_true, gt_iff_lt, ble_dec, beq_dec, List.head?_cons, AV.undef, eq_self, ne_eq, not_true_eq_false, not_false_eq_true, Int.reduceLT, Int.reduceLE, Int.reduceToNat, Int.reduceEq, Int.reduceNeg, Nat.reduceAdd, Nat.reduceLT, Nat.reduceLeDiff, Nat.reduceMul, Nat.reduceSub, AV.cells, AV.tup, Bool.true_and, true_and, and_true, List.drop_nil, List.append_nil, rd_put, rd_alloc, rdO, St.get_put, St.get_alloc, St.next_put, St.next_alloc, St.wr, Bool.and_self, Bool.and_true, List.length_cons, List.length_nil, List.take_succ_cons, List.take_zero, List.drop_succ_cons, List.drop_zero, List.cons_append, List.nil_append, Nat.zero_add, Nat.add_zero, Nat.reduceMul, t1, t2, t12, c1, hm1, hm2]
    refine ⟨m, ?_, ?_, ?_, he, lt, x, i, a, ?_, ?_, ?_, gw, w0, w1, xl, xi, xa, ha, i0, i1, hm⟩ <;> simp only [Tr.get_set, Nat.reduceEqDiff, if_false, if_true, t1, t2, t9, t10, t11, t12]
  by_cases c2 : i < n2
  rotate_left
  · simp -implicitDefEqProofs -dsimp (maxSteps := 10000000) only [af4_l0, ↓goes_loop, ↓goes_seq, ↓goes_reg, ↓goes_dreg, ↓goes_cond, ↓goes_block, ↓goes_skip, ↓goes_exit, ↓goes_ret, after_some, br_true, br_false, ↓then_normal, ↓then_exit, ↓then_ret, ↓blk_normal, ↓blk_exit, ↓blk_ret, ↓blk_other, ops_nil, ops_some, ops_none, oper_none, oper_some, gd_tt, gd_ff, gd_tf, gd_ft, gd_undef, ↓any_op, ↓any_call, ↓any_callV, ↓any_invoke, xo_t, xo_c, args_nil, args_cons, bin_add, bin_sub, bin_mul, bin_quo, bin_rem, bin_and, bin_or, bin_xor, bin_andNot, bin_eql, bin_neq, bin_lss, bin_leq, bin_gtr, bin_geq, bin_shl, bin_shr, bin_bools, bin_strs, bin_ptrs, bin_slices, bin_aggs, ↓Option.bind_some, ↓Option.map_some, ↓cond_true, ↓cond_false, evC, evOp, XO.lit, setArgs, Tr.get_set, Option.bind_some, Option.map_some, cond_true, cond_false, maxI, maxFrom, minI, minFrom, aConv, aBinE, aEq, eqScal, aUn, evRes, fin, oneOf, if_true, if_false, callee, reduceCtorEq, Nat.reduceEqDiff, and_self, decide_true, decide_false, beq_true, beq_false, Bool.not_true, Bool.not_false, List.getElem?_cons_zero, List.getElem?_cons_succ, beq_self_eq_true, gt_iff_lt, ble_dec, beq_dec, List.head?_cons, AV.undef, eq_self, ne_eq, not_true_eq_false, not_false_eq_true, Int.reduceLT, Int.reduceLE, Int.reduceToNat, Int.reduceEq, Int.reduceNeg, Nat.reduceAdd, Nat.reduceLT, Nat.reduceLeDiff, Nat.reduceMul, Nat.reduceSub, AV.cells, AV.tup, Bool.true_and, true_and, and_true, List.drop_nil, List.append_nil, rd_put, rd_alloc, rdO, St.get_put, St.get_alloc, St.next_put, St.next_alloc, St.wr, Bool.and_self, Bool.and_true, List.length_cons, List.length_nil, List.take_succ_cons, List.take_zero, List.drop_succ_cons, List.drop_zero, List.cons_append, List.nil_append, Nat.zero_add, Nat.add_zero, Nat.reduceMul, t1, t2, t12, c1, c2, hm1, hm2]
    refine ⟨m, ?_, ?_, ?_, he, lt, x, i, a, ?_, ?_, ?_, gw, w0, w1, xl, xi, xa, ha, i0, i1, hm⟩ <;> simp only [Tr.get_set, Nat.reduceEqDiff, if_false, if_true, t1, t2, t9, t10, t11, t12]
  by_cases c3 : i < 60
  rotate_left
  · simp -implicitDefEqProofs -dsimp (maxSteps := 10000000) only [af4_l0, ↓goes_loop, ↓goes_seq, ↓goes_reg, ↓goes_dreg, ↓goes_cond, ↓goes_block, ↓goes_skip, ↓goes_exit, ↓goes_ret, after_some, br_true, br_false, ↓then_normal, ↓then_exit, ↓then_ret, ↓blk_normal, ↓blk_exit, ↓blk_ret, ↓blk_other, ops_nil, ops_some, ops_none, oper_none, oper_some, gd_tt, gd_ff, gd_tf, gd_ft, gd_undef, ↓any_op, ↓any_call, ↓any_callV, ↓any_invoke, xo_t, xo_c, args_nil, args_cons, bin_add, bin_sub, bin_mul, bin_quo, bin_rem, bin_and, bin_or, bin_xor, bin_andNot, bin_eql, bin_neq, bin_lss, bin_leq, bin_gtr, bin_geq, bin_shl, bin_shr, bin_bools, bin_strs, bin_ptrs, bin_slices, bin_aggs, ↓Option.bind_some, ↓Option.map_some, ↓cond_true, ↓cond_false, evC, evOp, XO.lit, setArgs, Tr.get_set, Option.bind_some, Option.map_some, cond_true, cond_false, maxI, maxFrom, minI, minFrom, aConv, aBinE, aEq, eqScal, aUn, evRes, fin, oneOf, if_true, if_false, callee, reduceCtorEq, Nat.reduceEqDiff, and_self, decide_true, decide_false, beq_true, beq_false, Bool.not_true, Bool.not_false, List.getElem?_cons_zero, List.getElem?_cons_succ, beq_self_eq_true, gt_iff_lt, ble_dec, beq_dec, List.head?_cons, AV.undef, eq_self, ne_eq, not_true_eq_false, not_false_eq_true, Int.reduceLT, Int.reduceLE, Int.reduceToNat, Int.reduceEq, Int.reduceNeg, Nat.reduceAdd, Nat.reduceLT, Nat.reduceLeDiff, Nat.reduceMul, Nat.reduceSub, AV.cells, AV.tup, Bool.true_and, true_and, and_true, List.drop_nil, List.append_nil, rd_put, rd_alloc, rdO, St.get_put, St.get_alloc, St.next_put, St.next_alloc, St.wr, Bool.and_self, Bool.and_true, List.length_cons, List.length_nil, List.take_succ_cons, List.take_zero, List.drop_succ_cons, List.drop_zero, List.cons_append, List.nil_append, Nat.zero_add, Nat.add_zero, Nat.reduceMul, t1, t2, t12, c1, c2, c3, hm1, hm2]
    refine ⟨m, ?_, ?_, ?_, he, lt, x, i, a, ?_, ?_, ?_, gw, w0, w1, xl, xi, xa, ha, i0, i1, hm⟩ <;> simp only [Tr.get_set, Nat.reduceEqDiff, if_false, if_true, t1, t2, t9, t10, t11, t12]
  obtain ⟨o1, v1, j1, rfl, ho1⟩ := h1.at_ (by omega)
  obtain ⟨o2, v2, j2, rfl, ho2⟩ := h2.at_ (by omega)
  obtain ⟨y1, hy1, _⟩ := h1.int i0 c1
  obtain ⟨y2, hy2, _⟩ := h2.int i0 c2
  have hz1 : S.rd o1 v1 (j1 + i.toNat * 1) 1 = some [.int .i64 y1] := by rw [he.rd ho1]; exact hy1
  have hix1 : ixOf (.int .i64 i) n1 = some i.toNat := ix_ok i0 c1
  have hix2 : ixOf (.int .i64 i) n2 = some i.toNat := ix_ok i0 c2
  have q1 := T9 (k + 95) S (n := y1) (lo := -1) (hi := 2) (by decide) (by decide) (by decide)
  have q1 : evF Y AP (k + 99) 9 [.int .i64 y1, .int .i64 (-1), .int .i64 2] S = _ := q1
  have b1 := within_bd y1 (show (-1 : Int) ≤ 2 by decide)
  obtain ⟨n, hn⟩ : ∃ n, within y1 (-1) 2 = n := ⟨_, rfl⟩
  rw [hn] at q1 b1
  obtain ⟨S1, r1, u1⟩ := T11 (k + 95) gw n
  have r1 : evF Y AP (k + 99) 11 [pt o, .int .i64 n] S = _ := r1
  have hwb : wantB x n = (decide (¬ n = x.w) && decide (¬ n = -1)) := by
    rw [wantB, mx1_id b1.1]
    congr 1
    exact decide_eq_decide.2 (by omega)
  rw [hwb] at r1
  rcases Classical.propComplete (n = x.w) with hd1 | hd1
  all_goals rcases Classical.propComplete (n = -1) with hd2 | hd2
  all_goals
    simp only [hd1, hd2, not_true_eq_false, not_false_eq_true, decide_true, decide_false, Bool.and_true, Bool.and_false] at r1
    have e1 : Ext Sb S1 := u1.ext he ho
    have nx1 := u1.next
    have hz2 : S1.rd o2 v2 (j2 + i.toNat * 1) 1 = some [.int .i64 y2] := by rw [e1.rd ho2]; exact hy2
    have q2 := T9 (k + 95) S1 (n := y2) (lo := -1) (hi := 2) (by decide) (by decide) (by decide)
    have q2 : evF Y AP (k + 99) 9 [.int .i64 y2, .int .i64 (-1), .int .i64 2] S1 = _ := q2
    have b2 := within_bd y2 (show (-1 : Int) ≤ 2 by decide)
    obtain ⟨z, hz⟩ : ∃ z, within y2 (-1) 2 = z := ⟨_, rfl⟩
    rw [hz] at q2 b2
    obtain ⟨x1, hx1⟩ : ∃ x1, wantW x n = x1 := ⟨_, rfl⟩
    have x1w : x1.w = n := by rw [← hx1]; exact mx1_id b1.1
    have x1l : x1.l = -1 ∨ x1.l = n := by rw [← hx1]; simp only [wantW, mx1_id b1.1]; split <;> omega
    have x1i : x1.i = x.i := by rw [← hx1]; rfl
    rw [hx1] at u1
    have g1 := u1.same
    have wa : IntKind.i64.wrap (a + 1) = a + 1 := w64_id (by omega) (by omega)
    have wi : IntKind.i64.wrap (i + 1) = i + 1 := w64_id (by omega) (by omega)
    have wu : IntKind.u32.wrap i = i := u32_id i0 (by omega)
    obtain ⟨v, S2, r2, pk⟩ := T12 (k + 89) g1 (by omega) (L := z) (E := a + 1) (ty := 9) (sq := 0) (tm := i) (ss := 0) (pf := 0) (K := true) (mk := false) (cs := .slice none 0 0 none) (ex := .slice none 0 0 none) i0 (by omega) (c := none) (By.zero S1 0) (fun _ _ _ h => by cases h) (by decide)
    have r2 : evF Y AP (k + 99) 12 [pt o, .int .i64 z, .int .i64 (a + 1), .bool true, .agg [.bool false, .int .i64 9, .int .u16 0, .int .u32 i, .int .u32 0, .slice none 0 0 none, .int .u16 0, .slice none 0 0 none, .slice none 0 0 none]] S1 = some (v, S2) := r2
    have nx2 : S.next ≤ S1.next := by omega
    by_cases c4 : z = n ∧ 0 ≤ z
    · -- it goes out
      have hpk : pkW x1 z (a + 1) true i = some (if z = x1.l then goW x1 (a + 1) i else begW x1 z (a + 1) i) := by
        rw [pkW, if_neg (by omega)]
        by_cases c5 : z = x1.l
        · rw [if_pos c5, if_neg (by omega), if_pos c5]
        · rw [if_neg c5, if_pos rfl, if_neg c5]
      unfold Pkd at pk
      rw [hpk] at pk
      obtain ⟨x2, hx2⟩ : ∃ x2, (if z = x1.l then goW x1 (a + 1) i else begW x1 z (a + 1) i) = x2 := ⟨_, rfl⟩
      rw [hx2] at pk
      have x2l : x2.l = z := by
        rw [← hx2]
        by_cases c5 : z = x1.l
        · rw [if_pos c5]; exact c5.symm
        · rw [if_neg c5]; rfl
      have x2w : x2.w = n := by rw [← hx2, ← x1w]; split <;> rfl
      have x2i : x2.i = a + 1 := by rw [← hx2]; split <;> rfl
      obtain ⟨u, rfl, mt, _⟩ := pk
      have lt2 := mt.next
      have no : ¬ o = S2.next := by omega
      have g2 := mt.get
      have h10 : ∀ S, S.get o = some (wr x2) → evF Y AP (k + 99) 10 [pt o] S = some (.int .i64 z, S) := fun S h => by rw [← x2l]; exact T10 (k + 95) h
      have h15 : ∀ S, S.get o = some (wr x2) → evF Y AP (k + 99) 15 [pt o] S = some (.int .i64 n, S) := fun S h => by rw [← x2w]; exact T15 (k + 95) h
      obtain ⟨c41, c42⟩ := c4
      rw [c41] at r2 h10 c42 x2l q2
      simp -implicitDefEqProofs -dsimp (maxSteps := 10000000) only [af4_l0, ↓goes_loop, ↓goes_seq, ↓goes_reg, ↓goes_dreg, ↓goes_cond, ↓goes_block, ↓goes_skip, ↓goes_exit, ↓goes_ret, after_some, br_true, br_false, ↓then_normal, ↓then_exit, ↓then_ret, ↓blk_normal, ↓blk_exit, ↓blk_ret, ↓blk_other, ops_nil, ops_some, ops_none, oper_none, oper_some, gd_tt, gd_ff, gd_tf, gd_ft, gd_undef, ↓any_op, ↓any_call, ↓any_callV, ↓any_invoke, xo_t, xo_c, args_nil, args_cons, bin_add, bin_sub, bin_mul, bin_quo, bin_rem, bin_and, bin_or, bin_xor, bin_andNot, bin_eql, bin_neq, bin_lss, bin_leq, bin_gtr, bin_geq, bin_shl, bin_shr, bin_bools, bin_strs, bin_ptrs, bin_slices, bin_aggs, ↓Option.bind_some, ↓Option.map_some, ↓cond_true, ↓cond_false, evC, evOp, XO.lit, setArgs, Tr.get_set, Option.bind_some, Option.map_some, cond_true, cond_false, maxI, maxFrom, minI, minFrom, aConv, aBinE, aEq, eqScal, aUn, evRes, fin, oneOf, if_true, if_false, callee, reduceCtorEq, Nat.reduceEqDiff, and_self, decide_true, decide_false, beq_true, beq_false, Bool.not_true, Bool.not_false, List.getElem?_cons_zero, List.getElem?_cons_succ, beq_self_eq_true, gt_iff_lt, ble_dec, beq_dec, List.head?_cons, AV.undef, eq_self, ne_eq, not_true_eq_false, not_false_eq_true, Int.reduceLT, Int.reduceLE, Int.reduceToNat, Int.reduceEq, Int.reduceNeg, Nat.reduceAdd, Nat.reduceLT, Nat.reduceLeDiff, Nat.reduceMul, Nat.reduceSub, AV.cells, AV.tup, Bool.true_and, true_and, and_true, List.drop_nil, List.append_nil, rd_put, rd_alloc, rdO, St.get_put, St.get_alloc, St.next_put, St.next_alloc, St.wr, Bool.and_self, Bool.and_true, List.length_cons, List.length_nil, List.take_succ_cons, List.take_zero, List.drop_succ_cons, List.drop_zero, List.cons_append, List.nil_append, Nat.zero_add, Nat.add_zero, Nat.reduceMul, aFill, evParts, rep, List.replicate_succ, List.replicate_zero, List.flatten_cons, List.flatten_nil, List.append_nil, newSl, newVar, rtp, t1, t2, t9, t10, t11, t12, c1, c2, c3, hm1, hm2, hix1, hix2, hz1, hz2, q1, q2, r1, hd1, hd2, wa, wi, wu, r2, h10, h15, no, g2, c42]
      refine ⟨m - 1, ⟨?_, ?_, ?_, ?_, ?_, x2, i + 1, a + 1, ?_, ?_, ?_, ?_, by omega, by omega, .inr (by omega), by omega, by omega, by omega, by omega, by omega, by omega⟩, by simp only [id]; omega⟩
      · simp only [Tr.get_set, Nat.reduceEqDiff, if_false, if_true, t1]
      · simp only [Tr.get_set, Nat.reduceEqDiff, if_false, if_true, t2]
      · simp only [Tr.get_set, Nat.reduceEqDiff, if_false, if_true, t9]
      · exact ((mt.ext e1 ho).then_alloc _).then_put (by have := e1.next; simp only [ge_iff_le]; omega) _
      · simp only [St.next_put, St.next_alloc]; omega
      · simp only [Tr.get_set, Nat.reduceEqDiff, if_false, if_true, x2w]
      · simp only [Tr.get_set, Nat.reduceEqDiff, if_false, if_true]
      · simp only [Tr.get_set, Nat.reduceEqDiff, if_false, if_true]
      · simp only [St.get_put, St.get_alloc, if_neg no]; exact g2
    · have hpk : pkW x1 z (a + 1) true i = none := by
        rw [pkW, if_pos (by omega)]
      unfold Pkd at pk
      rw [hpk] at pk
      obtain ⟨rfl, ex⟩ := pk
      have lt2 := ex.next
      have no : ¬ o = S2.next := by omega
      have g2 := ex.get (by omega) g1
      have h15 : ∀ S, S.get o = some (wr x1) → evF Y AP (k + 99) 15 [pt o] S = some (.int .i64 n, S) := fun S h => by rw [← x1w]; exact T15 (k + 95) h
      have fin : ∀ (b : Bool) (T2 : Tm), T2 = T2 → True := fun _ _ _ => trivial
      by_cases c5 : z = n
      · have c6 : ¬ 0 ≤ z := fun h => c4 ⟨c5, h⟩
        rw [c5] at r2 q2 c6
        simp -implicitDefEqProofs -dsimp (maxSteps := 10000000) only [af4_l0, ↓goes_loop, ↓goes_seq, ↓goes_reg, ↓goes_dreg, ↓goes_cond, ↓goes_block, ↓goes_skip, ↓goes_exit, ↓goes_ret, after_some, br_true, br_false, ↓then_normal, ↓then_exit, ↓then_ret, ↓blk_normal, ↓blk_exit, ↓blk_ret, ↓blk_other, ops_nil, ops_some, ops_none, oper_none, oper_some, gd_tt, gd_ff, gd_tf, gd_ft, gd_undef, ↓any_op, ↓any_call, ↓any_callV, ↓any_invoke, xo_t, xo_c, args_nil, args_cons, bin_add, bin_sub, bin_mul, bin_quo, bin_rem, bin_and, bin_or, bin_xor, bin_andNot, bin_eql, bin_neq, bin_lss, bin_leq, bin_gtr, bin_geq, bin_shl, bin_shr, bin_bools, bin_strs, bin_ptrs, bin_slices, bin_aggs, ↓Option.bind_some, ↓Option.map_some, ↓cond_true, ↓cond_false, evC, evOp, XO.lit, setArgs, Tr.get_set, Option.bind_some, Option.map_some, cond_true, cond_false, maxI, maxFrom, minI, minFrom, aConv, aBinE, aEq, eqScal, aUn, evRes, fin, oneOf, if_true, if_false, callee, reduceCtorEq, Nat.reduceEqDiff, and_self, decide_true, decide_false, beq_true, beq_false, Bool.not_true, Bool.not_false, List.getElem?_cons_zero, List.getElem?_cons_succ, beq_self_eq_true, gt_iff_lt, ble_dec, beq_dec, List.head?_cons, AV.undef, eq_self, ne_eq, not_true_eq_false, not_false_eq_true, Int.reduceLT, Int.reduceLE, Int.reduceToNat, Int.reduceEq, Int.reduceNeg, Nat.reduceAdd, Nat.reduceLT, Nat.reduceLeDiff, Nat.reduceMul, Nat.reduceSub, AV.cells, AV.tup, Bool.true_and, true_and, and_true, List.drop_nil, List.append_nil, rd_put, rd_alloc, rdO, St.get_put, St.get_alloc, St.next_put, St.next_alloc, St.wr, Bool.and_self, Bool.and_true, List.length_cons, List.length_nil, List.take_succ_cons, List.take_zero, List.drop_succ_cons, List.drop_zero, List.cons_append, List.nil_append, Nat.zero_add, Nat.add_zero, Nat.reduceMul, aFill, evParts, rep, List.replicate_succ, List.replicate_zero, List.flatten_cons, List.flatten_nil, List.append_nil, newSl, newVar, rtp0, t1, t2, t9, t10, t11, t12, c1, c2, c3, hm1, hm2, hix1, hix2, hz1, hz2, q1, q2, r1, hd1, hd2, wa, wi, wu, r2, h15, no, g2, c6]
        refine ⟨m - 1, ⟨?_, ?_, ?_, ?_, ?_, x1, i + 1, a + 1, ?_, ?_, ?_, ?_, by omega, by omega, by omega, by omega, by omega, by omega, by omega, by omega, by omega⟩, by simp only [id]; omega⟩
        · simp only [Tr.get_set, Nat.reduceEqDiff, if_false, if_true, t1]
        · simp only [Tr.get_set, Nat.reduceEqDiff, if_false, if_true, t2]
        · simp only [Tr.get_set, Nat.reduceEqDiff, if_false, if_true, t9]
        · exact ((e1.trans ex).then_alloc _).then_put (by have := e1.next; simp only [ge_iff_le]; omega) _
        · simp only [St.next_put, St.next_alloc]; omega
        · simp only [Tr.get_set, Nat.reduceEqDiff, if_false, if_true, x1w]
        · simp only [Tr.get_set, Nat.reduceEqDiff, if_false, if_true]
        · simp only [Tr.get_set, Nat.reduceEqDiff, if_false, if_true]
        · simp only [St.get_put, St.get_alloc, if_neg no]; exact g2
      · simp -implicitDefEqProofs -dsimp (maxSteps := 10000000) only [af4_l0, ↓goes_loop, ↓goes_seq, ↓goes_reg, ↓goes_dreg, ↓goes_cond, ↓goes_block, ↓goes_skip, ↓goes_exit, ↓goes_ret, after_some, br_true, br_false, ↓then_normal, ↓then_exit, ↓then_ret, ↓blk_normal, ↓blk_exit, ↓blk_ret, ↓blk_other, ops_nil, ops_some, ops_none, oper_none, oper_some, gd_tt, gd_ff, gd_tf, gd_ft, gd_undef, ↓any_op, ↓any_call, ↓any_callV, ↓any_invoke, xo_t, xo_c, args_nil, args_cons, bin_add, bin_sub, bin_mul, bin_quo, bin_rem, bin_and, bin_or, bin_xor, bin_andNot, bin_eql, bin_neq, bin_lss, bin_leq, bin_gtr, bin_geq, bin_shl, bin_shr, bin_bools, bin_strs, bin_ptrs, bin_slices, bin_aggs, ↓Option.bind_some, ↓Option.map_some, ↓cond_true, ↓cond_false, evC, evOp, XO.lit, setArgs, Tr.get_set, Option.bind_some, Option.map_some, cond_true, cond_false, maxI, maxFrom, minI, minFrom, aConv, aBinE, aEq, eqScal, aUn, evRes, fin, oneOf, if_true, if_false, callee, reduceCtorEq, Nat.reduceEqDiff, and_self, decide_true, decide_false, beq_true, beq_false, Bool.not_true, Bool.not_false, List.getElem?_cons_zero, List.getElem?_cons_succ, beq_self_eq_true, gt_iff_lt, ble_dec, beq_dec, List.head?_cons, AV.undef, eq_self, ne_eq, not_true_eq_false, not_false_eq_true, Int.reduceLT, Int.reduceLE, Int.reduceToNat, Int.reduceEq, Int.reduceNeg, Nat.reduceAdd, Nat.reduceLT, Nat.reduceLeDiff, Nat.reduceMul, Nat.reduceSub, AV.cells, AV.tup, Bool.true_and, true_and, and_true, List.drop_nil, List.append_nil, rd_put, rd_alloc, rdO, St.get_put, St.get_alloc, St.next_put, St.next_alloc, St.wr, Bool.and_self, Bool.and_true, List.length_cons, List.length_nil, List.take_succ_cons, List.take_zero, List.drop_succ_cons, List.drop_zero, List.cons_append, List.nil_append, Nat.zero_add, Nat.add_zero, Nat.reduceMul, aFill, evParts, rep, List.replicate_succ, List.replicate_zero, List.flatten_cons, List.flatten_nil, List.append_nil, newSl, newVar, rtp0, t1, t2, t9, t10, t11, t12, c1, c2, c3, hm1, hm2, hix1, hix2, hz1, hz2, q1, q2, r1, hd1, hd2, wa, wi, wu, r2, h15, no, g2, c5]
        refine ⟨m - 1, ⟨?_, ?_, ?_, ?_, ?_, x1, i + 1, a + 1, ?_, ?_, ?_, ?_, by omega, by omega, by omega, by omega, by omega, by omega, by omega, by omega, by omega⟩, by simp only [id]; omega⟩
        · simp only [Tr.get_set, Nat.reduceEqDiff, if_false, if_true, t1]
        · simp only [Tr.get_set, Nat.reduceEqDiff, if_false, if_true, t2]
        · simp only [Tr.get_set, Nat.reduceEqDiff, if_false, if_true, t9]
        · exact ((e1.trans ex).then_alloc _).then_put (by have := e1.next; simp only [ge_iff_le]; omega) _
        · simp only [St.next_put, St.next_alloc]; omega
        · simp only [Tr.get_set, Nat.reduceEqDiff, if_false, if_true, x1w]
        · simp only [Tr.get_set, Nat.reduceEqDiff, if_false, if_true]
        · simp only [Tr.get_set, Nat.reduceEqDiff, if_false, if_true]
        · simp only [St.get_put, St.get_alloc, if_neg no]; exact g2
set_option maxHeartbeats 4000000 in
theorem ev4 (k : Nat) (s e : Int) {p1 p2 : Option (Nat × Nat × Nat)} {n1 n2 : Nat} {S : St} (h1 : Sl S p1 n1 [.int .i64]) (h2 : Sl S p2 n2 [.int .i64]) :
    ∃ S', evF Y AP (k + 100) 4 [.int .u32 s, .slice p1 n1 1 none, .slice p2 n2 1 none, .int .i64 e] S = some (.bool true, S') := by
  suffices hh : ∃ v S', evF Y AP (k + 100) 4 [.int .u32 s, .slice p1 n1 1 none, .slice p2 n2 1 none, .int .i64 e] S = some (v, S') ∧ v = .bool true by
    obtain ⟨v, S', h1, rfl⟩ := hh; exact ⟨S', h1⟩
  obtain ⟨S1, r1, b1⟩ := T8 (S := S) (k + 95) s
  have r1 : evF Y AP (k + 99) 8 [.int .u32 s] S = _ := r1
  have hb : 0 ≤ e % 16777216 ∧ e % 16777216 < 16777216 := by omega
  refine evF_goes (af := af4) (k := k + 99) rfl rfl rfl ?_
  simp -implicitDefEqProofs -dsimp (maxSteps := 10000000) only [af4, ↓goes_loop, ↓goes_seq, ↓goes_reg, ↓goes_dreg, ↓goes_cond, ↓goes_block, ↓goes_skip, ↓goes_exit, ↓goes_ret, after_some, br_true, br_false, ↓then_normal, ↓then_exit, ↓then_ret, ↓blk_normal, ↓blk_exit, ↓blk_ret, ↓blk_other, ops_nil, ops_some, ops_none, oper_none, oper_some, gd_tt, gd_ff, gd_tf, gd_ft, gd_undef, ↓any_op, ↓any_call, ↓any_callV, ↓any_invoke, xo_t, xo_c, args_nil, args_cons, bin_add, bin_sub, bin_mul, bin_quo, bin_rem, bin_and, bin_or, bin_xor, bin_andNot, bin_eql, bin_neq, bin_lss, bin_leq, bin_gtr, bin_geq, bin_shl, bin_shr, bin_bools, bin_strs, bin_ptrs, bin_slices, bin_aggs, ↓Option.bind_some, ↓Option.map_some, ↓cond_true, ↓cond_false, evC, evOp, XO.lit, setArgs, Tr.tabG, Tr.tabS, Tr.tabL, Tr.get_lf, Option.bind_some, Option.map_some, cond_true, cond_false, maxI, maxFrom, minI, minFrom, aConv, aBinE, aEq, eqScal, aUn, evRes, fin, oneOf, if_true, if_false, callee, reduceCtorEq, Nat.reduceEqDiff, and_self, decide_true, decide_false, beq_true, beq_false, Bool.not_true, Bool.not_false, List.getElem?_cons_zero, List.getElem?_cons_succ, beq_self_eq_true, gt_iff_lt, ble_dec, beq_dec, List.head?_cons, AV.undef, eq_self, ne_eq, not_true_eq_false, not_false_eq_true, Int.reduceLT, Int.reduceLE, Int.reduceToNat, Int.reduceEq, Int.reduceNeg, Nat.reduceAdd, Nat.reduceLT, Nat.reduceLeDiff, Nat.reduceMul, Nat.reduceSub, ↓evDraw_nil, putD, evDraw, trace, List.all_cons, List.all_nil, chk, stAt, again, sameV, sameA, AV.undef, Bool.and_self, Bool.and_true, decide_eq_true_eq, List.getElem?_nil, r1, m24, Option.isNone_some]
  refine .while (I4 p1 p2 n1 n2 S.next S) id 60 ⟨rfl, rfl, rfl, b1.ext, ?_, newW s, 0, e % 16777216, rfl, rfl, rfl, b1.same, by simp [newW], by simp [newW], .inl rfl, by simp [newW], ?_, by omega, by omega, by omega, by omega⟩ (by show 60 < k + 99; omega)
    fun m T2 S2 hI => (round4 k h1 h2 (Nat.le_refl _) m T2 S2 hI).mono ?_
  · have := b1.next; omega
  · simp only [newW]; omega
  · intro r T' S' hq
    cases r with
    | normal => exact hq
    | ret => exact absurd hq.1 (by simp)
    | exit j =>
      obtain ⟨hi, _⟩ := hq
      cases hi
      simp -implicitDefEqProofs -dsimp (maxSteps := 10000000) only [↓goes_loop, ↓goes_seq, ↓goes_reg, ↓goes_dreg, ↓goes_cond, ↓goes_block, ↓goes_skip, ↓goes_exit, ↓goes_ret, after_some, br_true, br_false, ↓then_normal, ↓then_exit, ↓then_ret, ↓blk_normal, ↓blk_exit, ↓blk_ret, ↓blk_other, ops_nil, ops_some, ops_none, oper_none, oper_some, gd_tt, gd_ff, gd_tf, gd_ft, gd_undef, ↓any_op, ↓any_call, ↓any_callV, ↓any_invoke, xo_t, xo_c, args_nil, args_cons, bin_add, bin_sub, bin_mul, bin_quo, bin_rem, bin_and, bin_or, bin_xor, bin_andNot, bin_eql, bin_neq, bin_lss, bin_leq, bin_gtr, bin_geq, bin_shl, bin_shr, bin_bools, bin_strs, bin_ptrs, bin_slices, bin_aggs, ↓Option.bind_some, ↓Option.map_some, ↓cond_true, ↓cond_false, evC, evOp, XO.lit, setArgs, Tr.get_set, Option.bind_some, Option.map_some, cond_true, cond_false, maxI, maxFrom, minI, minFrom, aConv, aBinE, aEq, eqScal, aUn, evRes, fin, oneOf, if_true, if_false, callee, reduceCtorEq, Nat.reduceEqDiff, and_self, decide_true, decide_false, beq_true, beq_false, Bool.not_true, Bool.not_false, List.getElem?_cons_zero, List.getElem?_cons_succ, beq_self_eq_true, gt_iff_lt, ble_dec, beq_dec, List.head?_cons, AV.undef, eq_self, ne_eq, not_true_eq_false, not_false_eq_true, Int.reduceLT, Int.reduceLE, Int.reduceToNat, Int.reduceEq, Int.reduceNeg, Nat.reduceAdd, Nat.reduceLT, Nat.reduceLeDiff, Nat.reduceMul, Nat.reduceSub, y14]
      exact ⟨_, _, rfl, rfl⟩
theorem law4 {s e : Int} (_ : (Lit.int .u32 s).wf = true) {p1 p2 : Option (Nat × Nat × Nat)} {n1 n2 : Nat} {xs ys : List AV} (h1 : Arg p1 0 n1 [.int .i64] xs) (h2 : Arg p2 1 n2 [.int .i64] ys) (_ : (Lit.int .i64 e).wf = true) :
    ∃ S', evF Y AP (0 + 100) 4 [.int .u32 s, .slice p1 n1 1 none, .slice p2 n2 1 none, .int .i64 e] ((S0.alloc (.cells xs 0 0 false)).alloc (.cells ys 0 0 false)) = some (.bool true, S') := by
  refine ev4 0 s e (.of_arg h1 (by simp only [St.get_alloc]; rfl) (by show 0 < 2; decide)) (.of_arg h2 (by rw [St.get_alloc]; rfl) (by show 1 < 2; decide))
end Go.Proofs.YtdppaegnmdiheaaA
