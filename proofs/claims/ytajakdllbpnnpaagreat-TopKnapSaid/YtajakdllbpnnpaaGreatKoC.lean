/- Top: the choice of layers: where there is none. Top: the choice of layers: a row of choices that grows. limelightbook.Within. Top: what a house gives is what the layers' choices give, picked by the budget: the walk. Top: what a house gives is what the layers' choices give, picked by the budget. -/
import Derived.Test.YtajakdllbpnnpaaGreatKoB
import Derived.Test.YtajakdllbpnnpaaGreatAeS8
set_option linter.unusedVariables false
set_option linter.unusedSimpArgs false
set_option maxRecDepth 10000
namespace Go.Proofs.YtajakdllbpnnpaaGreatA
open Go.RowKit
attribute [local congr] bind_congr1 map_congr1 cond_congr1 withX_congr after_congr br_congr gd_congr
section
variable (k : Nat) {S : St}
theorem c0n : ((0 : Nat) : Int) = 0 := rfl
theorem mn00 : (if (0 : Int) < 0 then (0 : Int) else 0) = 0 := rfl
theorem cut00 : aCut 1 (.slice none 0 0 none) none (some (.int .i64 0)) none = some (.slice none 0 1 none) := rfl
theorem cost0 : evF Y AP (k + 3) 14 [.slice none 0 0 none, .slice none 0 0 none] S = some (.int .i64 0, S) := by
  rw [evF_body (af := af14) rfl rfl rfl]
  simp -implicitDefEqProofs -dsimp (maxSteps := 10000000) only [af14, af14_l0, ops_nil, ops_some, ops_none, oper_none, oper_some, gd_tt, gd_ff, gd_tf, gd_ft, gd_undef, ↓any_op, ↓any_call, ↓any_callV, ↓any_invoke, xo_t, xo_c, args_nil, args_cons, bin_add, bin_sub, bin_mul, bin_quo, bin_rem, bin_and, bin_or, bin_xor, bin_andNot, bin_eql, bin_neq, bin_lss, bin_leq, bin_gtr, bin_geq, bin_shl, bin_shr, bin_bools, bin_strs, bin_ptrs, bin_slices, bin_aggs, ↓Option.bind_some, ↓Option.map_some, ↓cond_true, ↓cond_false, evC, evOp, XO.lit, setArgs, Tr.tabG, Tr.tabS, Tr.tabL, Tr.get_lf, Option.bind_some, Option.map_some, cond_true, cond_false, maxI, maxFrom, minI, minFrom, aConv, aBinE, aEq, eqScal, aUn, evRes, fin, oneOf, if_true, if_false, callee, reduceCtorEq, Nat.reduceEqDiff, and_self, decide_true, decide_false, beq_true, beq_false, Bool.not_true, Bool.not_false, List.getElem?_cons_zero, List.getElem?_cons_succ, beq_self_eq_true, gt_iff_lt, ble_dec, beq_dec, List.head?_cons, AV.undef, eq_self, ne_eq, not_true_eq_false, not_false_eq_true, Int.reduceLT, Int.reduceLE, Int.reduceToNat, Int.reduceEq, Int.reduceNeg, Nat.reduceAdd, Nat.reduceLT, Nat.reduceLeDiff, Nat.reduceMul, Nat.reduceSub, iter, c0n, cut00, evOpt, Nat.zero_le]
theorem fits0 {bu : Int} (h : 0 ≤ bu) : evF Y AP (k + 5) 6 [.slice none 0 0 none, .slice none 0 0 none, .int .i64 bu] S = some (.bool true, S) := by
  rw [evF_body (af := af6) rfl rfl rfl]
  have q : evF Y AP (k + 4) 14 [.slice none 0 0 none, .slice none 0 0 none] S = some (.int .i64 0, S) := cost0 (k + 1)
  simp -implicitDefEqProofs -dsimp (maxSteps := 10000000) only [af6, af6_l0, ops_nil, ops_some, ops_none, oper_none, oper_some, gd_tt, gd_ff, gd_tf, gd_ft, gd_undef, ↓any_op, ↓any_call, ↓any_callV, ↓any_invoke, xo_t, xo_c, args_nil, args_cons, bin_add, bin_sub, bin_mul, bin_quo, bin_rem, bin_and, bin_or, bin_xor, bin_andNot, bin_eql, bin_neq, bin_lss, bin_leq, bin_gtr, bin_geq, bin_shl, bin_shr, bin_bools, bin_strs, bin_ptrs, bin_slices, bin_aggs, ↓Option.bind_some, ↓Option.map_some, ↓cond_true, ↓cond_false, evC, evOp, XO.lit, setArgs, Tr.tabG, Tr.tabS, Tr.tabL, Tr.get_lf, Option.bind_some, Option.map_some, cond_true, cond_false, maxI, maxFrom, minI, minFrom, aConv, aBinE, aEq, eqScal, aUn, evRes, fin, oneOf, if_true, if_false, callee, reduceCtorEq, Nat.reduceEqDiff, and_self, decide_true, decide_false, beq_true, beq_false, Bool.not_true, Bool.not_false, List.getElem?_cons_zero, List.getElem?_cons_succ, beq_self_eq_true, gt_iff_lt, ble_dec, beq_dec, List.head?_cons, AV.undef, eq_self, ne_eq, not_true_eq_false, not_false_eq_true, Int.reduceLT, Int.reduceLE, Int.reduceToNat, Int.reduceEq, Int.reduceNeg, Nat.reduceAdd, Nat.reduceLT, Nat.reduceLeDiff, Nat.reduceMul, Nat.reduceSub, iter, c0n, q, h, Nat.zero_le]
theorem equal0 : evF Y AP (k + 3) 13 [.slice none 0 0 none, .slice none 0 0 none] S = some (.bool true, S) := by
  rw [evF_body (af := af13) rfl rfl rfl]
  simp -implicitDefEqProofs -dsimp (maxSteps := 10000000) only [af13, af13_l0, ops_nil, ops_some, ops_none, oper_none, oper_some, gd_tt, gd_ff, gd_tf, gd_ft, gd_undef, ↓any_op, ↓any_call, ↓any_callV, ↓any_invoke, xo_t, xo_c, args_nil, args_cons, bin_add, bin_sub, bin_mul, bin_quo, bin_rem, bin_and, bin_or, bin_xor, bin_andNot, bin_eql, bin_neq, bin_lss, bin_leq, bin_gtr, bin_geq, bin_shl, bin_shr, bin_bools, bin_strs, bin_ptrs, bin_slices, bin_aggs, ↓Option.bind_some, ↓Option.map_some, ↓cond_true, ↓cond_false, evC, evOp, XO.lit, setArgs, Tr.tabG, Tr.tabS, Tr.tabL, Tr.get_lf, Option.bind_some, Option.map_some, cond_true, cond_false, maxI, maxFrom, minI, minFrom, aConv, aBinE, aEq, eqScal, aUn, evRes, fin, oneOf, if_true, if_false, callee, reduceCtorEq, Nat.reduceEqDiff, and_self, decide_true, decide_false, beq_true, beq_false, Bool.not_true, Bool.not_false, List.getElem?_cons_zero, List.getElem?_cons_succ, beq_self_eq_true, gt_iff_lt, ble_dec, beq_dec, List.head?_cons, AV.undef, eq_self, ne_eq, not_true_eq_false, not_false_eq_true, Int.reduceLT, Int.reduceLE, Int.reduceToNat, Int.reduceEq, Int.reduceNeg, Nat.reduceAdd, Nat.reduceLT, Nat.reduceLeDiff, Nat.reduceMul, Nat.reduceSub, iter, c0n, Nat.zero_le]
theorem same0 : evF Y AP (k + 3) 9 [.slice none 0 0 none, .slice none 0 0 none] S = some (.bool true, S) := by
  rw [evF_body (af := af9) rfl rfl rfl]
  simp -implicitDefEqProofs -dsimp (maxSteps := 10000000) only [af9, af9_l0, ops_nil, ops_some, ops_none, oper_none, oper_some, gd_tt, gd_ff, gd_tf, gd_ft, gd_undef, ↓any_op, ↓any_call, ↓any_callV, ↓any_invoke, xo_t, xo_c, args_nil, args_cons, bin_add, bin_sub, bin_mul, bin_quo, bin_rem, bin_and, bin_or, bin_xor, bin_andNot, bin_eql, bin_neq, bin_lss, bin_leq, bin_gtr, bin_geq, bin_shl, bin_shr, bin_bools, bin_strs, bin_ptrs, bin_slices, bin_aggs, ↓Option.bind_some, ↓Option.map_some, ↓cond_true, ↓cond_false, evC, evOp, XO.lit, setArgs, Tr.tabG, Tr.tabS, Tr.tabL, Tr.get_lf, Option.bind_some, Option.map_some, cond_true, cond_false, maxI, maxFrom, minI, minFrom, aConv, aBinE, aEq, eqScal, aUn, evRes, fin, oneOf, if_true, if_false, callee, reduceCtorEq, Nat.reduceEqDiff, and_self, decide_true, decide_false, beq_true, beq_false, Bool.not_true, Bool.not_false, List.getElem?_cons_zero, List.getElem?_cons_succ, beq_self_eq_true, gt_iff_lt, ble_dec, beq_dec, List.head?_cons, AV.undef, eq_self, ne_eq, not_true_eq_false, not_false_eq_true, Int.reduceLT, Int.reduceLE, Int.reduceToNat, Int.reduceEq, Int.reduceNeg, Nat.reduceAdd, Nat.reduceLT, Nat.reduceLeDiff, Nat.reduceMul, Nat.reduceSub, iter, c0n, Nat.zero_le]
theorem best0 {bu : Int} : evF Y AP (k + 3) 12 [.slice none 0 0 none, .int .i64 bu] S = some (.slice none 0 0 none, S) := by
  rw [evF_body (af := af12) rfl rfl rfl]
  simp -implicitDefEqProofs -dsimp (maxSteps := 10000000) only [af12, ops_nil, ops_some, ops_none, oper_none, oper_some, gd_tt, gd_ff, gd_tf, gd_ft, gd_undef, ↓any_op, ↓any_call, ↓any_callV, ↓any_invoke, xo_t, xo_c, args_nil, args_cons, bin_add, bin_sub, bin_mul, bin_quo, bin_rem, bin_and, bin_or, bin_xor, bin_andNot, bin_eql, bin_neq, bin_lss, bin_leq, bin_gtr, bin_geq, bin_shl, bin_shr, bin_bools, bin_strs, bin_ptrs, bin_slices, bin_aggs, ↓Option.bind_some, ↓Option.map_some, ↓cond_true, ↓cond_false, evC, evOp, XO.lit, setArgs, Tr.tabG, Tr.tabS, Tr.tabL, Tr.get_lf, Option.bind_some, Option.map_some, cond_true, cond_false, maxI, maxFrom, minI, minFrom, aConv, aBinE, aEq, eqScal, aUn, evRes, fin, oneOf, if_true, if_false, callee, reduceCtorEq, Nat.reduceEqDiff, and_self, decide_true, decide_false, beq_true, beq_false, Bool.not_true, Bool.not_false, List.getElem?_cons_zero, List.getElem?_cons_succ, beq_self_eq_true, gt_iff_lt, ble_dec, beq_dec, List.head?_cons, AV.undef, eq_self, ne_eq, not_true_eq_false, not_false_eq_true, Int.reduceLT, Int.reduceLE, Int.reduceToNat, Int.reduceEq, Int.reduceNeg, Nat.reduceAdd, Nat.reduceLT, Nat.reduceLeDiff, Nat.reduceMul, Nat.reduceSub, c0n, Nat.zero_le]
theorem pick0 {bu : Int} (h : 0 ≤ bu) : evF Y AP (k + 6) 5 [.slice none 0 0 none, .int .i64 bu, .slice none 0 0 none] S = some (.slice none 0 0 none, S) := by
  rw [evF_body (af := af5) rfl rfl rfl]
  have q1 : evF Y AP (k + 5) 12 [.slice none 0 0 none, .int .i64 bu] S = some (.slice none 0 0 none, S) := best0 (k + 2)
  have q2 : evF Y AP (k + 5) 6 [.slice none 0 0 none, .slice none 0 0 none, .int .i64 bu] S = some (.bool true, S) := fits0 k h
  have q3 : evF Y AP (k + 5) 13 [.slice none 0 0 none, .slice none 0 0 none] S = some (.bool true, S) := equal0 (k + 2)
  simp -implicitDefEqProofs -dsimp (maxSteps := 10000000) only [af5, ops_nil, ops_some, ops_none, oper_none, oper_some, gd_tt, gd_ff, gd_tf, gd_ft, gd_undef, ↓any_op, ↓any_call, ↓any_callV, ↓any_invoke, xo_t, xo_c, args_nil, args_cons, bin_add, bin_sub, bin_mul, bin_quo, bin_rem, bin_and, bin_or, bin_xor, bin_andNot, bin_eql, bin_neq, bin_lss, bin_leq, bin_gtr, bin_geq, bin_shl, bin_shr, bin_bools, bin_strs, bin_ptrs, bin_slices, bin_aggs, ↓Option.bind_some, ↓Option.map_some, ↓cond_true, ↓cond_false, evC, evOp, XO.lit, setArgs, Tr.tabG, Tr.tabS, Tr.tabL, Tr.get_lf, Option.bind_some, Option.map_some, cond_true, cond_false, maxI, maxFrom, minI, minFrom, aConv, aBinE, aEq, eqScal, aUn, evRes, fin, oneOf, if_true, if_false, callee, reduceCtorEq, Nat.reduceEqDiff, and_self, decide_true, decide_false, beq_true, beq_false, Bool.not_true, Bool.not_false, List.getElem?_cons_zero, List.getElem?_cons_succ, beq_self_eq_true, gt_iff_lt, ble_dec, beq_dec, List.head?_cons, AV.undef, eq_self, ne_eq, not_true_eq_false, not_false_eq_true, Int.reduceLT, Int.reduceLE, Int.reduceToNat, Int.reduceEq, Int.reduceNeg, Nat.reduceAdd, Nat.reduceLT, Nat.reduceLeDiff, Nat.reduceMul, Nat.reduceSub, q1, q2, q3]
theorem cut01 {o v : Nat} : aCut 1 (.slice (some (o, v, 0)) 0 1 none) none (some (.int .i64 0)) none = some (.slice (some (o, v, 0)) 0 1 none) := rfl
theorem good0 : ∃ S', evF Y AP (k + 4) 8 [.slice none 0 0 none, .slice none 0 0 none] S = some (.agg (r4 (0, 0)), S') ∧ Ext S S' := by
  rw [evF_body (af := af8) rfl rfl rfl]
  obtain ⟨A, hA⟩ : ∃ A, S.alloc (.cells [.int .i64 0, .int .i64 0, .int .i64 0, .int .i64 0] 0 0 true) = A := ⟨_, rfl⟩
  have eA : Ext S A := hA ▸ .alloc _ _
  have gA : A.get S.next = some (.cells [.int .i64 0, .int .i64 0, .int .i64 0, .int .i64 0] 0 0 true) := by rw [← hA, St.get_alloc, if_pos rfl]
  obtain ⟨D, hD⟩ : ∃ D, A.alloc (.cells [.int .i64 0, .int .i64 0, .int .i64 0, .int .i64 0] 0 0 true) = D := ⟨_, rfl⟩
  have eD : Ext A D := hD ▸ .alloc _ _
  have rD : ∀ v i n, D.rd A.next v i n = rdO (.cells [.int .i64 0, .int .i64 0, .int .i64 0, .int .i64 0] 0 0 true) v i n := rd_of (by rw [← hD, St.get_alloc, if_pos rfl])
  have gD : D.get S.next = some (.cells [.int .i64 0, .int .i64 0, .int .i64 0, .int .i64 0] 0 0 true) := eD.get (by rw [← hA]; exact Nat.lt_succ_self _) gA
  refine ⟨D.put S.next (.cells [.int .i64 0, .int .i64 0, .int .i64 0, .int .i64 0] 0 0 true), ?_, (eA.trans eD).then_put (Nat.le_refl _) _⟩
  unfold r4
  simp -implicitDefEqProofs -dsimp (maxSteps := 10000000) only [af8, af8_l0, ops_nil, ops_some, ops_none, oper_none, oper_some, gd_tt, gd_ff, gd_tf, gd_ft, gd_undef, ↓any_op, ↓any_call, ↓any_callV, ↓any_invoke, xo_t, xo_c, args_nil, args_cons, bin_add, bin_sub, bin_mul, bin_quo, bin_rem, bin_and, bin_or, bin_xor, bin_andNot, bin_eql, bin_neq, bin_lss, bin_leq, bin_gtr, bin_geq, bin_shl, bin_shr, bin_bools, bin_strs, bin_ptrs, bin_slices, bin_aggs, ↓Option.bind_some, ↓Option.map_some, ↓cond_true, ↓cond_false, evC, evOp, XO.lit, setArgs, Tr.tabG, Tr.tabS, Tr.tabL, Tr.get_lf, Option.bind_some, Option.map_some, cond_true, cond_false, maxI, maxFrom, minI, minFrom, aConv, aBinE, aEq, eqScal, aUn, evRes, fin, oneOf, if_true, if_false, callee, reduceCtorEq, Nat.reduceEqDiff, and_self, decide_true, decide_false, beq_true, beq_false, Bool.not_true, Bool.not_false, List.getElem?_cons_zero, List.getElem?_cons_succ, beq_self_eq_true, gt_iff_lt, ble_dec, beq_dec, List.head?_cons, AV.undef, eq_self, ne_eq, not_true_eq_false, not_false_eq_true, Int.reduceLT, Int.reduceLE, Int.reduceToNat, Int.reduceEq, Int.reduceNeg, Nat.reduceAdd, Nat.reduceLT, Nat.reduceLeDiff, Nat.reduceMul, Nat.reduceSub, AV.cells, AV.tup, Bool.true_and, true_and, and_true, List.drop_nil, List.append_nil, rd_put, rd_alloc, rdO, St.get_put, St.get_alloc, St.next_put, St.next_alloc, St.wr, Bool.and_self, Bool.and_true, List.length_cons, List.length_nil, List.take_succ_cons, List.take_zero, List.drop_succ_cons, List.drop_zero, List.cons_append, List.nil_append, Nat.zero_add, Nat.add_zero, Nat.reduceMul, aFill, evParts, rep, List.replicate_succ, List.replicate_zero, List.flatten_cons, List.flatten_nil, List.append_nil, newSl, newVar, iter, c0n, cut00, cut01, evOpt, Nat.zero_le, hA, hD, rD, gD]
theorem good1 {on : Nat} : ∃ S', evF Y AP (k + 4) 8 [.slice none 0 0 none, .slice (some (on, 0, 0)) 0 1 none] S = some (.agg (r4 (0, 0)), S') ∧ Ext S S' := by
  rw [evF_body (af := af8) rfl rfl rfl]
  obtain ⟨A, hA⟩ : ∃ A, S.alloc (.cells [.int .i64 0, .int .i64 0, .int .i64 0, .int .i64 0] 0 0 true) = A := ⟨_, rfl⟩
  have eA : Ext S A := hA ▸ .alloc _ _
  have gA : A.get S.next = some (.cells [.int .i64 0, .int .i64 0, .int .i64 0, .int .i64 0] 0 0 true) := by rw [← hA, St.get_alloc, if_pos rfl]
  obtain ⟨D, hD⟩ : ∃ D, A.alloc (.cells [.int .i64 0, .int .i64 0, .int .i64 0, .int .i64 0] 0 0 true) = D := ⟨_, rfl⟩
  have eD : Ext A D := hD ▸ .alloc _ _
  have rD : ∀ v i n, D.rd A.next v i n = rdO (.cells [.int .i64 0, .int .i64 0, .int .i64 0, .int .i64 0] 0 0 true) v i n := rd_of (by rw [← hD, St.get_alloc, if_pos rfl])
  have gD : D.get S.next = some (.cells [.int .i64 0, .int .i64 0, .int .i64 0, .int .i64 0] 0 0 true) := eD.get (by rw [← hA]; exact Nat.lt_succ_self _) gA
  refine ⟨D.put S.next (.cells [.int .i64 0, .int .i64 0, .int .i64 0, .int .i64 0] 0 0 true), ?_, (eA.trans eD).then_put (Nat.le_refl _) _⟩
  unfold r4
  simp -implicitDefEqProofs -dsimp (maxSteps := 10000000) only [af8, af8_l0, ops_nil, ops_some, ops_none, oper_none, oper_some, gd_tt, gd_ff, gd_tf, gd_ft, gd_undef, ↓any_op, ↓any_call, ↓any_callV, ↓any_invoke, xo_t, xo_c, args_nil, args_cons, bin_add, bin_sub, bin_mul, bin_quo, bin_rem, bin_and, bin_or, bin_xor, bin_andNot, bin_eql, bin_neq, bin_lss, bin_leq, bin_gtr, bin_geq, bin_shl, bin_shr, bin_bools, bin_strs, bin_ptrs, bin_slices, bin_aggs, ↓Option.bind_some, ↓Option.map_some, ↓cond_true, ↓cond_false, evC, evOp, XO.lit, setArgs, Tr.tabG, Tr.tabS, Tr.tabL, Tr.get_lf, Option.bind_some, Option.map_some, cond_true, cond_false, maxI, maxFrom, minI, minFrom, aConv, aBinE, aEq, eqScal, aUn, evRes, fin, oneOf, if_true, if_false, callee, reduceCtorEq, Nat.reduceEqDiff, and_self, decide_true, decide_false, beq_true, beq_false, Bool.not_true, Bool.not_false, List.getElem?_cons_zero, List.getElem?_cons_succ, beq_self_eq_true, gt_iff_lt, ble_dec, beq_dec, List.head?_cons, AV.undef, eq_self, ne_eq, not_true_eq_false, not_false_eq_true, Int.reduceLT, Int.reduceLE, Int.reduceToNat, Int.reduceEq, Int.reduceNeg, Nat.reduceAdd, Nat.reduceLT, Nat.reduceLeDiff, Nat.reduceMul, Nat.reduceSub, AV.cells, AV.tup, Bool.true_and, true_and, and_true, List.drop_nil, List.append_nil, rd_put, rd_alloc, rdO, St.get_put, St.get_alloc, St.next_put, St.next_alloc, St.wr, Bool.and_self, Bool.and_true, List.length_cons, List.length_nil, List.take_succ_cons, List.take_zero, List.drop_succ_cons, List.drop_zero, List.cons_append, List.nil_append, Nat.zero_add, Nat.add_zero, Nat.reduceMul, aFill, evParts, rep, List.replicate_succ, List.replicate_zero, List.flatten_cons, List.flatten_nil, List.append_nil, newSl, newVar, iter, c0n, cut00, cut01, evOpt, Nat.zero_le, hA, hD, rD, gD]
end
def layL (L : Nat → Ch) (C G : Nat → Nat) : Nat → List AV
  | 0 => []
  | j + 1 => layL L C G j ++ ch3 (L j) (C j) (G j)
theorem layL_len (L : Nat → Ch) (C G : Nat → Nat) : ∀ i, (layL L C G i).length = i * 3
  | 0 => rfl
  | i + 1 => by simp only [layL, List.length_append, layL_len L C G i, ch3, List.length_cons, List.length_nil]; omega
theorem layL_el {L : Nat → Ch} {C G : Nat → Nat} : ∀ {i j : Nat}, j < i → ((layL L C G i).drop (j * 3)).take 3 = ch3 (L j) (C j) (G j)
  | 0, j, h => absurd h (Nat.not_lt_zero _)
  | i + 1, j, h => by
    have hl := layL_len L C G i
    simp only [layL]
    by_cases hj : j < i
    · rw [List.drop_append_of_le_length (by omega), List.take_append_of_le_length (by rw [List.length_drop]; omega)]
      exact layL_el hj
    · obtain rfl : j = i := by omega
      rw [← hl, List.drop_left]
      rfl
theorem layL_congr {L L' : Nat → Ch} {C C' G G' : Nat → Nat} : ∀ {i : Nat}, (∀ j, j < i → L j = L' j ∧ C j = C' j ∧ G j = G' j) → layL L C G i = layL L' C' G' i
  | 0, _ => rfl
  | i + 1, h => by
    simp only [layL]
    obtain ⟨a, b, c⟩ := h i (Nat.lt_succ_self i)
    rw [a, b, c, layL_congr fun j hj => h j (Nat.lt_succ_of_lt hj)]
/-- A row of choices that grows. -/
structure Bl (S : St) (p : Option (Nat × Nat × Nat)) (e i : Nat) (L : Nat → Ch) (C G : Nat → Nat) : Prop where
  vec : Vec S p i 3 e (layL L C G i)
  co : ∀ j, j < i → C j < S.next ∧ S.get (C j) = some (cI (L j).c0 (L j).c1) ∧ ∀ v w, p ≠ some (C j, v, w)
  go : ∀ j, j < i → G j < S.next ∧ S.get (G j) = some (cI (L j).g0 (L j).g1) ∧ ∀ v w, p ≠ some (G j, v, w)
  ok : ∀ j, j < i → OkC (L j)
theorem Bl.nil (S : St) (e : Nat) (L : Nat → Ch) (C G : Nat → Nat) : Bl S none e 0 L C G :=
  ⟨Vec.nil S 3 e, fun j h => absurd h (Nat.not_lt_zero _), fun j h => absurd h (Nat.not_lt_zero _), fun j h => absurd h (Nat.not_lt_zero _)⟩
theorem Bl.ext {S S' : St} {p : Option (Nat × Nat × Nat)} {e i : Nat} {L : Nat → Ch} {C G : Nat → Nat} (h : Bl S p e i L C G) (x : Ext S S') : Bl S' p e i L C G :=
  ⟨h.vec.ext x, fun j hj => ⟨Nat.lt_of_lt_of_le (h.co j hj).1 x.next, x.get (h.co j hj).1 (h.co j hj).2.1, (h.co j hj).2.2⟩,
    fun j hj => ⟨Nat.lt_of_lt_of_le (h.go j hj).1 x.next, x.get (h.go j hj).1 (h.go j hj).2.1, (h.go j hj).2.2⟩, h.ok⟩
theorem Bl.pt {S : St} {e i : Nat} {L : Nat → Ch} {C G : Nat → Nat} {o v w : Nat} (h : Bl S (some (o, v, w)) e i L C G) : o < S.next := by
  rcases h.vec.at_ with ⟨h1, _⟩ | ⟨o', v', mv, h1, h2, _⟩
  · cases h1
  · cases h1; exact h2
theorem Bl.push {S S2 : St} {p : Option (Nat × Nat × Nat)} {e i : Nat} {L : Nat → Ch} {C G : Nat → Nat} (h : Bl S p e i L C G) (hi : i < 8) {ch : Ch} (ok : OkC ch) {oc og : Nat} (x : Ext S S2)
    (hc : S.next ≤ oc ∧ oc < S2.next ∧ S2.get oc = some (cI ch.c0 ch.c1)) (hg : S.next ≤ og ∧ og < S2.next ∧ S2.get og = some (cI ch.g0 ch.g1)) :
    ∃ p' S', aAppend 3 56 S2 (.slice p i e none) 1 (ch3 ch oc og) = some (.slice p' (i + 1) 3 none, S') ∧ Bl S' p' 3 (i + 1) (fun j => if j = i then ch else L j) (fun j => if j = i then oc else C j) (fun j => if j = i then og else G j) ∧ Grow S2 S' p ∧ (∀ o v w, p' = some (o, v, w) → S2.next ≤ o ∨ ∃ v' w', p = some (o, v', w')) := by
  have h2 := h.ext x
  obtain ⟨p', S', q, hv, gr, hp⟩ := Vec.append (bytes := 56) (xs := ch3 ch oc og) (n := 1) h2.vec rfl (by decide) (by omega)
  have hpo : ∀ v w, ∀ o, p = some (o, v, w) → o < S.next := by
    intro v w o hp; subst hp; exact h.pt
  have hne : ∀ o, o < S2.next → (∀ v w, p ≠ some (o, v, w)) → ∀ v w, p' ≠ some (o, v, w) := by
    intro o ho hn v w hq
    rcases hp o v w hq with h1 | ⟨v', w', h1⟩
    · omega
    · exact hn v' w' h1
  have hcn : ∀ v w, p ≠ some (oc, v, w) := fun v w hq => by have := hpo v w oc hq; omega
  have hgn : ∀ v w, p ≠ some (og, v, w) := fun v w hq => by have := hpo v w og hq; omega
  refine ⟨p', S', q, ⟨?_, fun j hj => ?_, fun j hj => ?_, fun j hj => ?_⟩, gr, hp⟩
  · have e1 : layL (fun j => if j = i then ch else L j) (fun j => if j = i then oc else C j) (fun j => if j = i then og else G j) (i + 1) = layL L C G i ++ ch3 ch oc og := by
      simp only [layL, if_true]
      rw [layL_congr (L' := L) (C' := C) (G' := G) fun j hj => by simp [Nat.ne_of_lt hj]]
    rw [e1]; exact hv
  · by_cases e1 : j = i
    · simp only [e1, if_true]
      exact ⟨Nat.lt_of_lt_of_le hc.2.1 gr.next, (gr.old oc hc.2.1 hcn).trans hc.2.2, hne oc hc.2.1 hcn⟩
    · simp only [e1, if_false]
      obtain ⟨a1, a2, a3⟩ := h2.co j (by omega)
      exact ⟨Nat.lt_of_lt_of_le a1 gr.next, (gr.old _ a1 a3).trans a2, hne _ a1 a3⟩
  · by_cases e1 : j = i
    · simp only [e1, if_true]
      exact ⟨Nat.lt_of_lt_of_le hg.2.1 gr.next, (gr.old og hg.2.1 hgn).trans hg.2.2, hne og hg.2.1 hgn⟩
    · simp only [e1, if_false]
      obtain ⟨a1, a2, a3⟩ := h2.go j (by omega)
      exact ⟨Nat.lt_of_lt_of_le a1 gr.next, (gr.old _ a1 a3).trans a2, hne _ a1 a3⟩
  · by_cases e1 : j = i
    · simp only [e1, if_true]; exact ok
    · simp only [e1, if_false]; exact h.ok j (by omega)
theorem Bl.lay {S : St} {p : Option (Nat × Nat × Nat)} {e i : Nat} {L : Nat → Ch} {C G : Nat → Nat} (h : Bl S p e i L C G) (h0 : i ≠ 0) : ∃ o v, p = some (o, v, 0) ∧ e = 3 ∧ Lay S o v i L C G S.next := by
  rcases h.vec.at_ with ⟨_, h1⟩ | ⟨o, ver, mv, rfl, ho, hg, hv⟩
  · exact absurd h1 h0
  · refine ⟨o, ver, rfl, h.vec.ez.resolve_left (by simp), ho, fun j hj => ?_, fun j hj => ⟨(h.co j hj).1, (h.co j hj).2.1⟩, fun j hj => ⟨(h.go j hj).1, (h.go j hj).2.1⟩, h.ok⟩
    rw [rd_cells hg hv (by rw [layL_len]; omega), layL_el hj]
def within (n lo hi : Int) : Int := if lo ≤ n ∧ n ≤ hi then n else lo + n % (hi - lo + 1)
theorem within_bd (n : Int) {lo hi : Int} (h : lo ≤ hi) : lo ≤ within n lo hi ∧ within n lo hi ≤ hi := by
  unfold within
  have h0 := Int.emod_nonneg n (show hi - lo + 1 ≠ 0 by omega)
  have h1 := Int.emod_lt_of_pos n (show 0 < hi - lo + 1 by omega)
  split <;> omega
theorem tmod_up (n m : Int) (hm : 0 < m) : (if Int.tmod n m < 0 then Int.tmod n m + m else Int.tmod n m) = n % m := by
  rw [Int.tmod_eq_emod]
  have h0 := Int.emod_nonneg n (show m ≠ 0 by omega)
  have h1 := Int.emod_lt_of_pos n hm
  split
  · rw [if_neg (by omega)]; omega
  · have hn : ((m.natAbs : Nat) : Int) = m := Int.natAbs_of_nonneg (by omega)
    by_cases hz : n % m = 0
    · rename_i hc
      exact absurd (Or.inr (Int.dvd_of_emod_eq_zero hz)) hc
    · rw [if_pos (by omega)]; omega
theorem T4 (k : Nat) (S : St) {n lo hi : Int} (h : lo ≤ hi) (h0 : -4294967296 ≤ lo) (h1 : hi ≤ 4294967296) : evF Y AP (k + 4) 4 [.int .i64 n, .int .i64 lo, .int .i64 hi] S = some (.int .i64 (within n lo hi), S) := by
  rw [evF_body (af := af4) rfl rfl rfl]
  have w1 : IntKind.i64.wrap (hi - lo) = hi - lo := w64_id (by omega) (by omega)
  have w2 : IntKind.i64.wrap (hi - lo + 1) = hi - lo + 1 := w64_id (by omega) (by omega)
  have hne : ¬ hi - lo + 1 = 0 := by omega
  have hu := tmod_up n (hi - lo + 1) (by omega)
  have h2 := Int.emod_nonneg n (show hi - lo + 1 ≠ 0 by omega)
  have h3 := Int.emod_lt_of_pos n (show 0 < hi - lo + 1 by omega)
  obtain ⟨t, ht⟩ : ∃ t, Int.tmod n (hi - lo + 1) = t := ⟨_, rfl⟩
  rw [ht] at hu
  by_cases c1 : lo ≤ n
  · by_cases c2 : n ≤ hi
    · simp -implicitDefEqProofs -dsimp (maxSteps := 10000000) only [af4, ops_nil, ops_some, ops_none, oper_none, oper_some, gd_tt, gd_ff, gd_tf, gd_ft, gd_undef, ↓any_op, ↓any_call, ↓any_callV, ↓any_invoke, xo_t, xo_c, args_nil, args_cons, bin_add, bin_sub, bin_mul, bin_quo, bin_rem, bin_and, bin_or, bin_xor, bin_andNot, bin_eql, bin_neq, bin_lss, bin_leq, bin_gtr, bin_geq, bin_shl, bin_shr, bin_bools, bin_strs, bin_ptrs, bin_slices, bin_aggs, ↓Option.bind_some, ↓Option.map_some, ↓cond_true, ↓cond_false, evC, evOp, XO.lit, setArgs, Tr.tabG, Tr.tabS, Tr.tabL, Tr.get_lf, Option.bind_some, Option.map_some, cond_true, cond_false, maxI, maxFrom, minI, minFrom, aConv, aBinE, aEq, eqScal, aUn, evRes, fin, oneOf, if_true, if_false, callee, reduceCtorEq, Nat.reduceEqDiff, and_self, decide_true, decide_false, beq_true, beq_false, Bool.not_true, Bool.not_false, List.getElem?_cons_zero, List.getElem?_cons_succ, beq_self_eq_true, gt_iff_lt, ble_dec, beq_dec, List.head?_cons, AV.undef, eq_self, ne_eq, not_true_eq_false, not_false_eq_true, Int.reduceLT, Int.reduceLE, Int.reduceToNat, Int.reduceEq, Int.reduceNeg, Nat.reduceAdd, Nat.reduceLT, Nat.reduceLeDiff, Nat.reduceMul, Nat.reduceSub, AV.cells, AV.tup, Bool.true_and, true_and, and_true, List.drop_nil, List.append_nil, rd_put, rd_alloc, rdO, St.get_put, St.get_alloc, St.next_put, St.next_alloc, St.wr, Bool.and_self, Bool.and_true, List.length_cons, List.length_nil, List.take_succ_cons, List.take_zero, List.drop_succ_cons, List.drop_zero, List.cons_append, List.nil_append, Nat.zero_add, Nat.add_zero, Nat.reduceMul, c1, c2]
      simp only [within, c1, c2, and_self, if_true]
    · by_cases c3 : t < 0
      · rw [if_pos c3] at hu
        have w3 : IntKind.i64.wrap (t + hi) = t + hi := w64_id (by omega) (by omega)
        have w4 : IntKind.i64.wrap (t + hi - lo) = t + hi - lo := w64_id (by omega) (by omega)
        have w5 : IntKind.i64.wrap (t + hi - lo + 1) = t + hi - lo + 1 := w64_id (by omega) (by omega)
        have w6 : IntKind.i64.wrap (lo + (t + hi - lo + 1)) = lo + (t + hi - lo + 1) := w64_id (by omega) (by omega)
        simp -implicitDefEqProofs -dsimp (maxSteps := 10000000) only [af4, ops_nil, ops_some, ops_none, oper_none, oper_some, gd_tt, gd_ff, gd_tf, gd_ft, gd_undef, ↓any_op, ↓any_call, ↓any_callV, ↓any_invoke, xo_t, xo_c, args_nil, args_cons, bin_add, bin_sub, bin_mul, bin_quo, bin_rem, bin_and, bin_or, bin_xor, bin_andNot, bin_eql, bin_neq, bin_lss, bin_leq, bin_gtr, bin_geq, bin_shl, bin_shr, bin_bools, bin_strs, bin_ptrs, bin_slices, bin_aggs, ↓Option.bind_some, ↓Option.map_some, ↓cond_true, ↓cond_false, evC, evOp, XO.lit, setArgs, Tr.tabG, Tr.tabS, Tr.tabL, Tr.get_lf, Option.bind_some, Option.map_some, cond_true, cond_false, maxI, maxFrom, minI, minFrom, aConv, aBinE, aEq, eqScal, aUn, evRes, fin, oneOf, if_true, if_false, callee, reduceCtorEq, Nat.reduceEqDiff, and_self, decide_true, decide_false, beq_true, beq_false, Bool.not_true, Bool.not_false, List.getElem?_cons_zero, List.getElem?_cons_succ, beq_self_eq_true, gt_iff_lt, ble_dec, beq_dec, List.head?_cons, AV.undef, eq_self, ne_eq, not_true_eq_false, not_false_eq_true, Int.reduceLT, Int.reduceLE, Int.reduceToNat, Int.reduceEq, Int.reduceNeg, Nat.reduceAdd, Nat.reduceLT, Nat.reduceLeDiff, Nat.reduceMul, Nat.reduceSub, AV.cells, AV.tup, Bool.true_and, true_and, and_true, List.drop_nil, List.append_nil, rd_put, rd_alloc, rdO, St.get_put, St.get_alloc, St.next_put, St.next_alloc, St.wr, Bool.and_self, Bool.and_true, List.length_cons, List.length_nil, List.take_succ_cons, List.take_zero, List.drop_succ_cons, List.drop_zero, List.cons_append, List.nil_append, Nat.zero_add, Nat.add_zero, Nat.reduceMul, c1, c2, c3, ht, w1, w2, w3, w4, w5, w6, hne]
        simp only [within, c2, and_false, if_false]
        congr 3; omega
      · rw [if_neg c3] at hu
        have w6 : IntKind.i64.wrap (lo + t) = lo + t := w64_id (by omega) (by omega)
        simp -implicitDefEqProofs -dsimp (maxSteps := 10000000) only [af4, ops_nil, ops_some, ops_none, oper_none, oper_some, gd_tt, gd_ff, gd_tf, gd_ft, gd_undef, ↓any_op, ↓any_call, ↓any_callV, ↓any_invoke, xo_t, xo_c, args_nil, args_cons, bin_add, bin_sub, bin_mul, bin_quo, bin_rem, bin_and, bin_or, bin_xor, bin_andNot, bin_eql, bin_neq, bin_lss, bin_leq, bin_gtr, bin_geq, bin_shl, bin_shr, bin_bools, bin_strs, bin_ptrs, bin_slices, bin_aggs, ↓Option.bind_some, ↓Option.map_some, ↓cond_true, ↓cond_false, evC, evOp, XO.lit, setArgs, Tr.tabG, Tr.tabS, Tr.tabL, Tr.get_lf, Option.bind_some, Option.map_some, cond_true, cond_false, maxI, maxFrom, minI, minFrom, aConv, aBinE, aEq, eqScal, aUn, evRes, fin, oneOf, if_true, if_false, callee, reduceCtorEq, Nat.reduceEqDiff, and_self, decide_true, decide_false, beq_true, beq_false, Bool.not_true, Bool.not_false, List.getElem?_cons_zero, List.getElem?_cons_succ, beq_self_eq_true, gt_iff_lt, ble_dec, beq_dec, List.head?_cons, AV.undef, eq_self, ne_eq, not_true_eq_false, not_false_eq_true, Int.reduceLT, Int.reduceLE, Int.reduceToNat, Int.reduceEq, Int.reduceNeg, Nat.reduceAdd, Nat.reduceLT, Nat.reduceLeDiff, Nat.reduceMul, Nat.reduceSub, AV.cells, AV.tup, Bool.true_and, true_and, and_true, List.drop_nil, List.append_nil, rd_put, rd_alloc, rdO, St.get_put, St.get_alloc, St.next_put, St.next_alloc, St.wr, Bool.and_self, Bool.and_true, List.length_cons, List.length_nil, List.take_succ_cons, List.take_zero, List.drop_succ_cons, List.drop_zero, List.cons_append, List.nil_append, Nat.zero_add, Nat.add_zero, Nat.reduceMul, c1, c2, c3, ht, w1, w2, w6, hne]
        simp only [within, c2, and_false, if_false, hu]
  · by_cases c3 : t < 0
    · rw [if_pos c3] at hu
      have w3 : IntKind.i64.wrap (t + hi) = t + hi := w64_id (by omega) (by omega)
      have w4 : IntKind.i64.wrap (t + hi - lo) = t + hi - lo := w64_id (by omega) (by omega)
      have w5 : IntKind.i64.wrap (t + hi - lo + 1) = t + hi - lo + 1 := w64_id (by omega) (by omega)
      have w6 : IntKind.i64.wrap (lo + (t + hi - lo + 1)) = lo + (t + hi - lo + 1) := w64_id (by omega) (by omega)
      simp -implicitDefEqProofs -dsimp (maxSteps := 10000000) only [af4, ops_nil, ops_some, ops_none, oper_none, oper_some, gd_tt, gd_ff, gd_tf, gd_ft, gd_undef, ↓any_op, ↓any_call, ↓any_callV, ↓any_invoke, xo_t, xo_c, args_nil, args_cons, bin_add, bin_sub, bin_mul, bin_quo, bin_rem, bin_and, bin_or, bin_xor, bin_andNot, bin_eql, bin_neq, bin_lss, bin_leq, bin_gtr, bin_geq, bin_shl, bin_shr, bin_bools, bin_strs, bin_ptrs, bin_slices, bin_aggs, ↓Option.bind_some, ↓Option.map_some, ↓cond_true, ↓cond_false, evC, evOp, XO.lit, setArgs, Tr.tabG, Tr.tabS, Tr.tabL, Tr.get_lf, Option.bind_some, Option.map_some, cond_true, cond_false, maxI, maxFrom, minI, minFrom, aConv, aBinE, aEq, eqScal, aUn, evRes, fin, oneOf, if_true, if_false, callee, reduceCtorEq, Nat.reduceEqDiff, and_self, decide_true, decide_false, beq_true, beq_false, Bool.not_true, Bool.not_false, List.getElem?_cons_zero, List.getElem?_cons_succ, beq_self_eq_true, gt_iff_lt, ble_dec, beq_dec, List.head?_cons, AV.undef, eq_self, ne_eq, not_true_eq_false, not_false_eq_true, Int.reduceLT, Int.reduceLE, Int.reduceToNat, Int.reduceEq, Int.reduceNeg, Nat.reduceAdd, Nat.reduceLT, Nat.reduceLeDiff, Nat.reduceMul, Nat.reduceSub, AV.cells, AV.tup, Bool.true_and, true_and, and_true, List.drop_nil, List.append_nil, rd_put, rd_alloc, rdO, St.get_put, St.get_alloc, St.next_put, St.next_alloc, St.wr, Bool.and_self, Bool.and_true, List.length_cons, List.length_nil, List.take_succ_cons, List.take_zero, List.drop_succ_cons, List.drop_zero, List.cons_append, List.nil_append, Nat.zero_add, Nat.add_zero, Nat.reduceMul, c1, c3, ht, w1, w2, w3, w4, w5, w6, hne]
      simp only [within, c1, false_and, if_false]
      congr 3; omega
    · rw [if_neg c3] at hu
      have w6 : IntKind.i64.wrap (lo + t) = lo + t := w64_id (by omega) (by omega)
      simp -implicitDefEqProofs -dsimp (maxSteps := 10000000) only [af4, ops_nil, ops_some, ops_none, oper_none, oper_some, gd_tt, gd_ff, gd_tf, gd_ft, gd_undef, ↓any_op, ↓any_call, ↓any_callV, ↓any_invoke, xo_t, xo_c, args_nil, args_cons, bin_add, bin_sub, bin_mul, bin_quo, bin_rem, bin_and, bin_or, bin_xor, bin_andNot, bin_eql, bin_neq, bin_lss, bin_leq, bin_gtr, bin_geq, bin_shl, bin_shr, bin_bools, bin_strs, bin_ptrs, bin_slices, bin_aggs, ↓Option.bind_some, ↓Option.map_some, ↓cond_true, ↓cond_false, evC, evOp, XO.lit, setArgs, Tr.tabG, Tr.tabS, Tr.tabL, Tr.get_lf, Option.bind_some, Option.map_some, cond_true, cond_false, maxI, maxFrom, minI, minFrom, aConv, aBinE, aEq, eqScal, aUn, evRes, fin, oneOf, if_true, if_false, callee, reduceCtorEq, Nat.reduceEqDiff, and_self, decide_true, decide_false, beq_true, beq_false, Bool.not_true, Bool.not_false, List.getElem?_cons_zero, List.getElem?_cons_succ, beq_self_eq_true, gt_iff_lt, ble_dec, beq_dec, List.head?_cons, AV.undef, eq_self, ne_eq, not_true_eq_false, not_false_eq_true, Int.reduceLT, Int.reduceLE, Int.reduceToNat, Int.reduceEq, Int.reduceNeg, Nat.reduceAdd, Nat.reduceLT, Nat.reduceLeDiff, Nat.reduceMul, Nat.reduceSub, AV.cells, AV.tup, Bool.true_and, true_and, and_true, List.drop_nil, List.append_nil, rd_put, rd_alloc, rdO, St.get_put, St.get_alloc, St.next_put, St.next_alloc, St.wr, Bool.and_self, Bool.and_true, List.length_cons, List.length_nil, List.take_succ_cons, List.take_zero, List.drop_succ_cons, List.drop_zero, List.cons_append, List.nil_append, Nat.zero_add, Nat.add_zero, Nat.reduceMul, c1, c3, ht, w1, w2, w6, hne]
      simp only [within, c1, false_and, if_false, hu]
theorem i32s {i : Nat} {n : Nat} (h : i < n) : ixOf (.int .i64 (i : Int)) n = some i := by rw [ix_ok (by omega) (by omega)]; rfl
structure I3a (p0 p1 : Option (Nat × Nat × Nat)) (n0 n1 : Nat) (bu : Int) (Sb : St) (r : Nat) (T : Tm) (S : St) : Prop where
  t0 : T.get 0 = some (.slice p0 n0 1 none)
  t1 : T.get 1 = some (.slice p1 n1 1 none)
  t2 : T.get 2 = some (.int .i64 bu)
  t6 : T.get 6 = some (.bool false)
  ext : Ext Sb S
  more : ∃ (i : Nat) (p : Option (Nat × Nat × Nat)) (e : Nat) (L : Nat → Ch) (C G : Nat → Nat), T.get 8 = some (.int .i64 i) ∧ i + r = 4 ∧ T.get 7 = some (.slice p i e none) ∧ Bl S p e i L C G ∧ (i = 0 → p = none ∧ e = 0) ∧ ∀ o v w, p = some (o, v, w) → Sb.next ≤ o
set_option maxHeartbeats 16000000 in
theorem round3a (k : Nat) {p0 p1 : Option (Nat × Nat × Nat)} {n0 n1 : Nat} {bu : Int} {Sb : St} (h0 : Sl Sb p0 n0 [.int .i64]) (h1 : Sl Sb p1 n1 [.int .i64]) (r : Nat) (T : Tm) (S : St) (hI : I3a p0 p1 n0 n1 bu Sb r T S) :
    Goes (evF Y AP (k + 99)) (k + 99) af3_l1 T S (Then (fun T' S' => ∃ r', I3a p0 p1 n0 n1 bu Sb r' T' S' ∧ id r' < id r) fun e T' S' => e = .exit 0 ∧ ∃ r', I3a p0 p1 n0 n1 bu Sb r' T' S') := by
  have hI0 := hI
  obtain ⟨t0, t1, t2, t6, ex, i, p, e, L, C, G, t8, hr, t7, hB, hz, hp⟩ := hI
  have m0 := h0.max
  have m1 := h1.max
  have out : ∀ T', T'.get 0 = T.get 0 → T'.get 1 = T.get 1 → T'.get 2 = T.get 2 → T'.get 6 = T.get 6 → T'.get 7 = T.get 7 → T'.get 8 = T.get 8 → ∃ r', I3a p0 p1 n0 n1 bu Sb r' T' S := by
    intro T' a0 a1 a2 a6 a7 a8
    exact ⟨r, by rw [a0]; exact t0, by rw [a1]; exact t1, by rw [a2]; exact t2, by rw [a6]; exact t6, ex, i, p, e, L, C, G, by rw [a8]; exact t8, hr, by rw [a7]; exact t7, hB, hz, hp⟩
  by_cases c0 : (i : Int) < (n0 : Int)
  rotate_left
  · simp -implicitDefEqProofs -dsimp (maxSteps := 10000000) only [af3_l1, ↓goes_loop, ↓goes_seq, ↓goes_reg, ↓goes_dreg, ↓goes_preg, ↓goes_cond, ↓goes_block, ↓goes_skip, ↓goes_exit, ↓goes_ret, after_some, br_true, br_false, ↓then_normal, ↓then_exit, ↓then_ret, ↓blk_normal, ↓blk_exit, ↓blk_ret, ↓blk_other, ops_nil, ops_some, ops_none, oper_none, oper_some, gd_tt, gd_ff, gd_tf, gd_ft, gd_undef, ↓any_op, ↓any_call, ↓any_callV, ↓any_invoke, xo_t, xo_c, args_nil, args_cons, bin_add, bin_sub, bin_mul, bin_quo, bin_rem, bin_and, bin_or, bin_xor, bin_andNot, bin_eql, bin_neq, bin_lss, bin_leq, bin_gtr, bin_geq, bin_shl, bin_shr, bin_bools, bin_strs, bin_ptrs, bin_slices, bin_aggs, ↓Option.bind_some, ↓Option.map_some, ↓cond_true, ↓cond_false, evC, evOp, XO.lit, setArgs, Tr.get_set, Option.bind_some, Option.map_some, cond_true, cond_false, maxI, maxFrom, minI, minFrom, aConv, aBinE, aEq, eqScal, aUn, evRes, fin, oneOf, if_true, if_false, callee, reduceCtorEq, Nat.reduceEqDiff, and_self, decide_true, decide_false, beq_true, beq_false, Bool.not_true, Bool.not_false, List.getElem?_cons_zero, List.getElem?_cons_succ, beq_self_eq_true, gt_iff_lt, ble_dec, beq_dec, List.head?_cons, AV.undef, eq_self, ne_eq, not_true_eq_false, not_false_eq_true, Int.reduceLT, Int.reduceLE, Int.reduceToNat, Int.reduceEq, Int.reduceNeg, Nat.reduceAdd, Nat.reduceLT, Nat.reduceLeDiff, Nat.reduceMul, Nat.reduceSub, AV.cells, AV.tup, Bool.true_and, true_and, and_true, List.drop_nil, List.append_nil, rd_put, rd_alloc, rdO, St.get_put, St.get_alloc, St.next_put, St.next_alloc, St.wr, Bool.and_self, Bool.and_true, List.length_cons, List.length_nil, List.take_succ_cons, List.take_zero, List.drop_succ_cons, List.drop_zero, List.cons_append, List.nil_append, Nat.zero_add, Nat.add_zero, Nat.reduceMul, t0, t1, t8, m0, m1, c0]
    refine out _ ?_ ?_ ?_ ?_ ?_ ?_ <;> simp only [Tr.get_set, Nat.reduceEqDiff, if_false]
  by_cases c1 : (i : Int) < (n1 : Int)
  rotate_left
  · simp -implicitDefEqProofs -dsimp (maxSteps := 10000000) only [af3_l1, ↓goes_loop, ↓goes_seq, ↓goes_reg, ↓goes_dreg, ↓goes_preg, ↓goes_cond, ↓goes_block, ↓goes_skip, ↓goes_exit, ↓goes_ret, after_some, br_true, br_false, ↓then_normal, ↓then_exit, ↓then_ret, ↓blk_normal, ↓blk_exit, ↓blk_ret, ↓blk_other, ops_nil, ops_some, ops_none, oper_none, oper_some, gd_tt, gd_ff, gd_tf, gd_ft, gd_undef, ↓any_op, ↓any_call, ↓any_callV, ↓any_invoke, xo_t, xo_c, args_nil, args_cons, bin_add, bin_sub, bin_mul, bin_quo, bin_rem, bin_and, bin_or, bin_xor, bin_andNot, bin_eql, bin_neq, bin_lss, bin_leq, bin_gtr, bin_geq, bin_shl, bin_shr, bin_bools, bin_strs, bin_ptrs, bin_slices, bin_aggs, ↓Option.bind_some, ↓Option.map_some, ↓cond_true, ↓cond_false, evC, evOp, XO.lit, setArgs, Tr.get_set, Option.bind_some, Option.map_some, cond_true, cond_false, maxI, maxFrom, minI, minFrom, aConv, aBinE, aEq, eqScal, aUn, evRes, fin, oneOf, if_true, if_false, callee, reduceCtorEq, Nat.reduceEqDiff, and_self, decide_true, decide_false, beq_true, beq_false, Bool.not_true, Bool.not_false, List.getElem?_cons_zero, List.getElem?_cons_succ, beq_self_eq_true, gt_iff_lt, ble_dec, beq_dec, List.head?_cons, AV.undef, eq_self, ne_eq, not_true_eq_false, not_false_eq_true, Int.reduceLT, Int.reduceLE, Int.reduceToNat, Int.reduceEq, Int.reduceNeg, Nat.reduceAdd, Nat.reduceLT, Nat.reduceLeDiff, Nat.reduceMul, Nat.reduceSub, AV.cells, AV.tup, Bool.true_and, true_and, and_true, List.drop_nil, List.append_nil, rd_put, rd_alloc, rdO, St.get_put, St.get_alloc, St.next_put, St.next_alloc, St.wr, Bool.and_self, Bool.and_true, List.length_cons, List.length_nil, List.take_succ_cons, List.take_zero, List.drop_succ_cons, List.drop_zero, List.cons_append, List.nil_append, Nat.zero_add, Nat.add_zero, Nat.reduceMul, t0, t1, t8, m0, m1, c0, c1]
    refine out _ ?_ ?_ ?_ ?_ ?_ ?_ <;> simp only [Tr.get_set, Nat.reduceEqDiff, if_false]
  by_cases c2 : (i : Int) < 4
  rotate_left
  · simp -implicitDefEqProofs -dsimp (maxSteps := 10000000) only [af3_l1, ↓goes_loop, ↓goes_seq, ↓goes_reg, ↓goes_dreg, ↓goes_preg, ↓goes_cond, ↓goes_block, ↓goes_skip, ↓goes_exit, ↓goes_ret, after_some, br_true, br_false, ↓then_normal, ↓then_exit, ↓then_ret, ↓blk_normal, ↓blk_exit, ↓blk_ret, ↓blk_other, ops_nil, ops_some, ops_none, oper_none, oper_some, gd_tt, gd_ff, gd_tf, gd_ft, gd_undef, ↓any_op, ↓any_call, ↓any_callV, ↓any_invoke, xo_t, xo_c, args_nil, args_cons, bin_add, bin_sub, bin_mul, bin_quo, bin_rem, bin_and, bin_or, bin_xor, bin_andNot, bin_eql, bin_neq, bin_lss, bin_leq, bin_gtr, bin_geq, bin_shl, bin_shr, bin_bools, bin_strs, bin_ptrs, bin_slices, bin_aggs, ↓Option.bind_some, ↓Option.map_some, ↓cond_true, ↓cond_false, evC, evOp, XO.lit, setArgs, Tr.get_set, Option.bind_some, Option.map_some, cond_true, cond_false, maxI, maxFrom, minI, minFrom, aConv, aBinE, aEq, eqScal, aUn, evRes, fin, oneOf, if_true, if_false, callee, reduceCtorEq, Nat.reduceEqDiff, and_self, decide_true, decide_false, beq_true, beq_false, Bool.not_true, Bool.not_false, List.getElem?_cons_zero, List.getElem?_cons_succ, beq_self_eq_true, gt_iff_lt, ble_dec, beq_dec, List.head?_cons, AV.undef, eq_self, ne_eq, not_true_eq_false, not_false_eq_true, Int.reduceLT, Int.reduceLE, Int.reduceToNat, Int.reduceEq, Int.reduceNeg, Nat.reduceAdd, Nat.reduceLT, Nat.reduceLeDiff, Nat.reduceMul, Nat.reduceSub, AV.cells, AV.tup, Bool.true_and, true_and, and_true, List.drop_nil, List.append_nil, rd_put, rd_alloc, rdO, St.get_put, St.get_alloc, St.next_put, St.next_alloc, St.wr, Bool.and_self, Bool.and_true, List.length_cons, List.length_nil, List.take_succ_cons, List.take_zero, List.drop_succ_cons, List.drop_zero, List.cons_append, List.nil_append, Nat.zero_add, Nat.add_zero, Nat.reduceMul, t0, t1, t8, m0, m1, c0, c1, c2]
    refine out _ ?_ ?_ ?_ ?_ ?_ ?_ <;> simp only [Tr.get_set, Nat.reduceEqDiff, if_false]
  obtain ⟨o0, v0, j0, rfl, ho0⟩ := h0.at_ (by omega)
  obtain ⟨o1, v1, j1, rfl, ho1⟩ := h1.at_ (by omega)
  obtain ⟨x0, e0, _⟩ := h0.int (j := (i : Int)) (by omega) c0
  obtain ⟨x1, e1, _⟩ := h1.int (j := (i : Int)) (by omega) c1
  rw [Int.toNat_natCast] at e0 e1
  have e0' : S.rd o0 v0 (j0 + i * 1) 1 = some [.int .i64 x0] := by rw [ex.rd ho0]; exact e0
  have e1' : S.rd o1 v1 (j1 + i * 1) 1 = some [.int .i64 x1] := by rw [ex.rd ho1]; exact e1
  have i0 := i32s (show i < n0 by omega)
  have i1 := i32s (show i < n1 by omega)
  have wi : IntKind.i64.wrap ((i : Int) + 1) = ((i + 1 : Nat) : Int) := w64_id (by omega) (by omega)
  have q0 : evF Y AP (k + 99) 4 [.int .i64 x0, .int .i64 0, .int .i64 9] S = some (.int .i64 (within x0 0 9), S) := T4 (k + 95) S (by decide) (by decide) (by decide)
  have q1 : evF Y AP (k + 99) 4 [.int .i64 x1, .int .i64 0, .int .i64 9] S = some (.int .i64 (within x1 0 9), S) := T4 (k + 95) S (by decide) (by decide) (by decide)
  have b0 := within_bd x0 (show (0 : Int) ≤ 9 by decide)
  have b1 := within_bd x1 (show (0 : Int) ≤ 9 by decide)
  obtain ⟨a, ha⟩ : ∃ a, within x0 0 9 = a := ⟨_, rfl⟩
  obtain ⟨b, hb⟩ : ∃ b, within x1 0 9 = b := ⟨_, rfl⟩
  rw [ha] at q0 b0
  rw [hb] at q1 b1
  have wa : IntKind.i64.wrap (a + 3) = a + 3 := w64_id (by omega) (by omega)
  have wb : IntKind.i64.wrap (b + 4) = b + 4 := w64_id (by omega) (by omega)
  obtain ⟨s, hs⟩ : ∃ s, Go.bits .and .i64 (i : Int) 1 = s := ⟨_, rfl⟩
  have hs01 : s = 0 ∨ s = 1 := by
    have h : Go.bits .and .i64 (i : Int) 1 = (i : Int) % 2 := and_i64 1 (by decide) (i : Int)
    rw [h] at hs; omega
  obtain ⟨A, hA⟩ : ∃ A, S.alloc (.cells [.int .i64 a, .int .i64 (a + 3)] 0 0 true) = A := ⟨_, rfl⟩
  have eA : Ext S A := hA ▸ .alloc _ _
  have nA : A.next = S.next + 1 := by rw [← hA]; rfl
  have gA : A.get S.next = some (cI a (a + 3)) := by rw [← hA, St.get_alloc, if_pos rfl]; rfl
  obtain ⟨B, hBb⟩ : ∃ B, A.alloc (.cells [.int .i64 b, .int .i64 (b + 4)] 0 0 true) = B := ⟨_, rfl⟩
  have eB : Ext A B := hBb ▸ .alloc _ _
  have nB : B.next = S.next + 2 := by rw [← hBb]; show A.next + 1 = _; omega
  have gB : B.get A.next = some (cI b (b + 4)) := by rw [← hBb, St.get_alloc, if_pos rfl]; rfl
  obtain ⟨D, hD⟩ : ∃ D, B.alloc (.cells [.int .i64 s, .slice (some (S.next, 0, 0)) 2 1 none, .slice (some (A.next, 0, 0)) 2 1 none] 0 0 true) = D := ⟨_, rfl⟩
  have eD : Ext B D := hD ▸ .alloc _ _
  have nD : D.next = S.next + 3 := by rw [← hD]; show B.next + 1 = _; omega
  have rD : ∀ v i n, D.rd B.next v i n = rdO (.cells [.int .i64 s, .slice (some (S.next, 0, 0)) 2 1 none, .slice (some (A.next, 0, 0)) 2 1 none] 0 0 true) v i n := rd_of (by rw [← hD, St.get_alloc, if_pos rfl])
  have xD : Ext S D := eA.trans (eB.trans eD)
  have okc : OkC ⟨s, a, a + 3, b, b + 4⟩ := ⟨hs01, ⟨by show 0 ≤ a; omega, by show a ≤ 1000; omega⟩, ⟨by show 0 ≤ a + 3; omega, by show a + 3 ≤ 1000; omega⟩, ⟨by show 0 ≤ b; omega, by show b ≤ 1000; omega⟩, ⟨by show 0 ≤ b + 4; omega, by show b + 4 ≤ 1000; omega⟩⟩
  obtain ⟨p', S', q, hB', gr, hp'⟩ := hB.push (by omega) okc (oc := S.next) (og := A.next) xD ⟨Nat.le_refl _, by omega, (eB.trans eD).get (by omega) gA⟩ ⟨by omega, by omega, eD.get (by omega) gB⟩
  unfold ch3 at q
  have exS : Ext Sb S' := by
    refine ⟨Nat.le_trans ex.next (Nat.le_trans xD.next gr.next), fun o ho => ?_⟩
    rw [gr.old o (by have := ex.next; omega) (fun v w hq => by have := hp o v w hq; omega)]
    exact (ex.trans xD).old o ho
  simp -implicitDefEqProofs -dsimp (maxSteps := 10000000) only [af3_l1, ↓goes_loop, ↓goes_seq, ↓goes_reg, ↓goes_dreg, ↓goes_preg, ↓goes_cond, ↓goes_block, ↓goes_skip, ↓goes_exit, ↓goes_ret, after_some, br_true, br_false, ↓then_normal, ↓then_exit, ↓then_ret, ↓blk_normal, ↓blk_exit, ↓blk_ret, ↓blk_other, ops_nil, ops_some, ops_none, oper_none, oper_some, gd_tt, gd_ff, gd_tf, gd_ft, gd_undef, ↓any_op, ↓any_call, ↓any_callV, ↓any_invoke, xo_t, xo_c, args_nil, args_cons, bin_add, bin_sub, bin_mul, bin_quo, bin_rem, bin_and, bin_or, bin_xor, bin_andNot, bin_eql, bin_neq, bin_lss, bin_leq, bin_gtr, bin_geq, bin_shl, bin_shr, bin_bools, bin_strs, bin_ptrs, bin_slices, bin_aggs, ↓Option.bind_some, ↓Option.map_some, ↓cond_true, ↓cond_false, evC, evOp, XO.lit, setArgs, Tr.get_set, Option.bind_some, Option.map_some, cond_true, cond_false, maxI, maxFrom, minI, minFrom, aConv, aBinE, aEq, eqScal, aUn, evRes, fin, oneOf, if_true, if_false, callee, reduceCtorEq, Nat.reduceEqDiff, and_self, decide_true, decide_false, beq_true, beq_false, Bool.not_true, Bool.not_false, List.getElem?_cons_zero, List.getElem?_cons_succ, beq_self_eq_true, gt_iff_lt, ble_dec, beq_dec, List.head?_cons, AV.undef, eq_self, ne_eq, not_true_eq_false, not_false_eq_true, Int.reduceLT, Int.reduceLE, Int.reduceToNat, Int.reduceEq, Int.reduceNeg, Nat.reduceAdd, Nat.reduceLT, Nat.reduceLeDiff, Nat.reduceMul, Nat.reduceSub, ↓evDraw_nil, bir, putD, evDraw, trace, List.all_cons, List.all_nil, chk, stAt, again, sameV, sameL, sameA, AV.undef, Bool.and_self, Bool.and_true, decide_eq_true_eq, List.getElem?_nil, AV.cells, AV.tup, Bool.true_and, true_and, and_true, List.drop_nil, List.append_nil, rd_put, rd_alloc, rdO, St.get_put, St.get_alloc, St.next_put, St.next_alloc, St.wr, Bool.and_self, Bool.and_true, List.length_cons, List.length_nil, List.take_succ_cons, List.take_zero, List.drop_succ_cons, List.drop_zero, List.cons_append, List.nil_append, Nat.zero_add, Nat.add_zero, Nat.reduceMul, aFill, evParts, rep, List.replicate_succ, List.replicate_zero, List.flatten_cons, List.flatten_nil, List.append_nil, newSl, newVar, t0, t1, t7, t8, m0, m1, c0, c1, c2, i0, i1, e0', e1', q0, q1, wa, wb, hs, hA, hBb, hD, rD, q, wi]
  refine ⟨r - 1, ⟨?_, ?_, ?_, ?_, exS, i + 1, p', 3, _, _, _, ?_, by omega, ?_, hB', fun h => by omega, fun o v w hq => ?_⟩, by show r - 1 < r; omega⟩
  iterate 4 (first | focus (simp only [Tr.get_set, Nat.reduceEqDiff, if_false, if_true, t0, t1, t2, t6]; done) | skip)
  · simp only [Tr.get_set, Nat.reduceEqDiff, if_false, if_true]
  · simp only [Tr.get_set, Nat.reduceEqDiff, if_false, if_true]
  · rcases hp' o v w hq with h | ⟨v', w', h⟩
    · have := ex.next; omega
    · exact hp o v' w' h
/-- A row that is laid with what is none. -/
def fillN (j : Nat) : Nat → Int := fun q => if q < j then -1 else 0
theorem fill_upd (j : Nat) : upd (fillN j) j (-1) = fillN (j + 1) := by
  funext q
  unfold upd fillN
  by_cases h : q = j
  · rw [if_pos h, if_pos (by omega)]
  · rw [if_neg h]
    by_cases h2 : q < j
    · rw [if_pos h2, if_pos (by omega)]
    · rw [if_neg h2, if_neg (by omega)]
structure I3b (w6 w7 w11 w12 : AV) (on m : Nat) (Sb : St) (r : Nat) (T : Tm) (S : St) : Prop where
  t6 : T.get 6 = some w6
  t7 : T.get 7 = some w7
  t11 : T.get 11 = some w11
  t12 : T.get 12 = some w12
  t13 : T.get 13 = some (.slice (some (on, 0, 0)) m 1 none)
  t64 : T.get 64 = some (.int .i64 m)
  next : S.next = Sb.next
  old : ∀ o, o ≠ on → S.get o = Sb.get o
  more : ∃ j : Nat, T.get 65 = some (.int .i64 j) ∧ j + r = m ∧ S.get on = some (.cells (rowL (fillN j) m) 0 0 true)
set_option maxHeartbeats 4000000 in
theorem round3b (k : Nat) {w6 w7 w11 w12 : AV} {on m : Nat} {Sb : St} (hm : m ≤ 8) (r : Nat) (T : Tm) (S : St) (hI : I3b w6 w7 w11 w12 on m Sb r T S) :
    Goes (evF Y AP (k + 99)) (k + 99) af3_l0 T S (Then (fun T' S' => ∃ r', I3b w6 w7 w11 w12 on m Sb r' T' S' ∧ id r' < id r) fun e T' S' => e = .exit 2 ∧ I3b w6 w7 w11 w12 on m Sb 0 T' S') := by
  obtain ⟨t6, t7, t11, t12, t13, t64, nx, old, j, t65, hr, gn⟩ := hI
  by_cases c1 : (j : Int) < (m : Int)
  rotate_left
  · obtain rfl : r = 0 := by omega
    simp -implicitDefEqProofs -dsimp (maxSteps := 10000000) only [af3_l0, ↓goes_loop, ↓goes_seq, ↓goes_reg, ↓goes_dreg, ↓goes_preg, ↓goes_cond, ↓goes_block, ↓goes_skip, ↓goes_exit, ↓goes_ret, after_some, br_true, br_false, ↓then_normal, ↓then_exit, ↓then_ret, ↓blk_normal, ↓blk_exit, ↓blk_ret, ↓blk_other, ops_nil, ops_some, ops_none, oper_none, oper_some, gd_tt, gd_ff, gd_tf, gd_ft, gd_undef, ↓any_op, ↓any_call, ↓any_callV, ↓any_invoke, xo_t, xo_c, args_nil, args_cons, bin_add, bin_sub, bin_mul, bin_quo, bin_rem, bin_and, bin_or, bin_xor, bin_andNot, bin_eql, bin_neq, bin_lss, bin_leq, bin_gtr, bin_geq, bin_shl, bin_shr, bin_bools, bin_strs, bin_ptrs, bin_slices, bin_aggs, ↓Option.bind_some, ↓Option.map_some, ↓cond_true, ↓cond_false, evC, evOp, XO.lit, setArgs, Tr.get_set, Option.bind_some, Option.map_some, cond_true, cond_false, maxI, maxFrom, minI, minFrom, aConv, aBinE, aEq, eqScal, aUn, evRes, fin, oneOf, if_true, if_false, callee, reduceCtorEq, Nat.reduceEqDiff, and_self, decide_true, decide_false, beq_true, beq_false, Bool.not_true, Bool.not_false, List.getElem?_cons_zero, List.getElem?_cons_succ, beq_self_eq_true, gt_iff_lt, ble_dec, beq_dec, List.head?_cons, AV.undef, eq_self, ne_eq, not_true_eq_false, not_false_eq_true, Int.reduceLT, Int.reduceLE, Int.reduceToNat, Int.reduceEq, Int.reduceNeg, Nat.reduceAdd, Nat.reduceLT, Nat.reduceLeDiff, Nat.reduceMul, Nat.reduceSub, AV.cells, AV.tup, Bool.true_and, true_and, and_true, List.drop_nil, List.append_nil, rd_put, rd_alloc, rdO, St.get_put, St.get_alloc, St.next_put, St.next_alloc, St.wr, Bool.and_self, Bool.and_true, List.length_cons, List.length_nil, List.take_succ_cons, List.take_zero, List.drop_succ_cons, List.drop_zero, List.cons_append, List.nil_append, Nat.zero_add, Nat.add_zero, Nat.reduceMul, t64, t65, c1]
    refine ⟨?_, ?_, ?_, ?_, ?_, ?_, nx, old, j, ?_, hr, gn⟩ <;> simp only [Tr.get_set, Nat.reduceEqDiff, if_false, if_true, t6, t7, t11, t12, t13, t64, t65]
  have hj : j < m := by omega
  have hix := i32s hj
  have wj : IntKind.i64.wrap ((j : Int) + 1) = ((j + 1 : Nat) : Int) := w64_id (by omega) (by omega)
  have hw : S.wr on 0 (j * 1) [.int .i64 (-1)] = some (S.put on (.cells (rowL (fillN (j + 1)) m) 0 0 true)) := by
    unfold St.wr
    rw [gn]
    simp only [Nat.beq_refl, ble_dec, Nat.le_refl, decide_true, Bool.and_self, Bool.true_and, List.length_cons, List.length_nil, Nat.zero_add, Nat.mul_one, rowL_len]
    rw [decide_eq_true (show j + 1 ≤ m by omega), cond_true, rowL_upd (-1) hj, fill_upd]
  simp -implicitDefEqProofs -dsimp (maxSteps := 10000000) only [af3_l0, ↓goes_loop, ↓goes_seq, ↓goes_reg, ↓goes_dreg, ↓goes_preg, ↓goes_cond, ↓goes_block, ↓goes_skip, ↓goes_exit, ↓goes_ret, after_some, br_true, br_false, ↓then_normal, ↓then_exit, ↓then_ret, ↓blk_normal, ↓blk_exit, ↓blk_ret, ↓blk_other, ops_nil, ops_some, ops_none, oper_none, oper_some, gd_tt, gd_ff, gd_tf, gd_ft, gd_undef, ↓any_op, ↓any_call, ↓any_callV, ↓any_invoke, xo_t, xo_c, args_nil, args_cons, bin_add, bin_sub, bin_mul, bin_quo, bin_rem, bin_and, bin_or, bin_xor, bin_andNot, bin_eql, bin_neq, bin_lss, bin_leq, bin_gtr, bin_geq, bin_shl, bin_shr, bin_bools, bin_strs, bin_ptrs, bin_slices, bin_aggs, ↓Option.bind_some, ↓Option.map_some, ↓cond_true, ↓cond_false, evC, evOp, XO.lit, setArgs, Tr.get_set, Option.bind_some, Option.map_some, cond_true, cond_false, maxI, maxFrom, minI, minFrom, aConv, aBinE, aEq, eqScal, aUn, evRes, fin, oneOf, if_true, if_false, callee, reduceCtorEq, Nat.reduceEqDiff, and_self, decide_true, decide_false, beq_true, beq_false, Bool.not_true, Bool.not_false, List.getElem?_cons_zero, List.getElem?_cons_succ, beq_self_eq_true, gt_iff_lt, ble_dec, beq_dec, List.head?_cons, AV.undef, eq_self, ne_eq, not_true_eq_false, not_false_eq_true, Int.reduceLT, Int.reduceLE, Int.reduceToNat, Int.reduceEq, Int.reduceNeg, Nat.reduceAdd, Nat.reduceLT, Nat.reduceLeDiff, Nat.reduceMul, Nat.reduceSub, AV.cells, AV.tup, Bool.true_and, true_and, and_true, List.drop_nil, List.append_nil, rd_put, rd_alloc, rdO, St.get_put, St.get_alloc, St.next_put, St.next_alloc, Bool.and_self, Bool.and_true, List.length_cons, List.length_nil, List.take_succ_cons, List.take_zero, List.drop_succ_cons, List.drop_zero, List.cons_append, List.nil_append, Nat.zero_add, Nat.add_zero, Nat.reduceMul, t13, t64, t65, c1, hix, hw, wj]
  refine ⟨r - 1, ⟨?_, ?_, ?_, ?_, ?_, ?_, nx, fun o ho => by rw [St.get_put, if_neg ho]; exact old o ho, j + 1, ?_, by omega, by rw [St.get_put, if_pos rfl]⟩, by show r - 1 < r; omega⟩ <;> simp only [Tr.get_set, Nat.reduceEqDiff, if_false, if_true, t6, t7, t11, t12, t13, t64]
theorem fill0 : fillN 0 = fun _ => 0 := by funext q; simp [fillN]
theorem bet_zero {g : Int × Int} (h1 : 0 ≤ g.1) (h2 : 0 ≤ g.2) : bet (0, 0) g = false := by
  unfold bet
  rw [decide_eq_false (by show ¬ g.1 < 0; omega), decide_eq_false (p := g.2 < (0, 0).2) (by show ¬ g.2 < 0; omega)]
  simp
set_option maxHeartbeats 16000000 in
theorem ev3 (k : Nat) {p0 p1 : Option (Nat × Nat × Nat)} {n0 n1 : Nat} {bu : Int} {Sb : St} (h0 : Sl Sb p0 n0 [.int .i64]) (h1 : Sl Sb p1 n1 [.int .i64]) :
    ∃ w S', evF Y AP (k + 100) 3 [.slice p0 n0 1 none, .slice p1 n1 1 none, .int .i64 bu] Sb = some (w, S') ∧ w = .bool true := by
  refine evF_goes (af := af3) (k := k + 99) rfl rfl rfl ?_
  simp -implicitDefEqProofs -dsimp (maxSteps := 10000000) only [af3, ↓goes_loop, ↓goes_seq, ↓goes_reg, ↓goes_dreg, ↓goes_preg, ↓goes_cond, ↓goes_block, ↓goes_skip, ↓goes_exit, ↓goes_ret, after_some, br_true, br_false, ↓then_normal, ↓then_exit, ↓then_ret, ↓blk_normal, ↓blk_exit, ↓blk_ret, ↓blk_other, ops_nil, ops_some, ops_none, oper_none, oper_some, gd_tt, gd_ff, gd_tf, gd_ft, gd_undef, ↓any_op, ↓any_call, ↓any_callV, ↓any_invoke, xo_t, xo_c, args_nil, args_cons, bin_add, bin_sub, bin_mul, bin_quo, bin_rem, bin_and, bin_or, bin_xor, bin_andNot, bin_eql, bin_neq, bin_lss, bin_leq, bin_gtr, bin_geq, bin_shl, bin_shr, bin_bools, bin_strs, bin_ptrs, bin_slices, bin_aggs, ↓Option.bind_some, ↓Option.map_some, ↓cond_true, ↓cond_false, evC, evOp, XO.lit, setArgs, Tr.tabG, Tr.tabS, Tr.tabL, Tr.get_lf, Option.bind_some, Option.map_some, cond_true, cond_false, maxI, maxFrom, minI, minFrom, aConv, aBinE, aEq, eqScal, aUn, evRes, fin, oneOf, if_true, if_false, callee, reduceCtorEq, Nat.reduceEqDiff, and_self, decide_true, decide_false, beq_true, beq_false, Bool.not_true, Bool.not_false, List.getElem?_cons_zero, List.getElem?_cons_succ, beq_self_eq_true, gt_iff_lt, ble_dec, beq_dec, List.head?_cons, AV.undef, eq_self, ne_eq, not_true_eq_false, not_false_eq_true, Int.reduceLT, Int.reduceLE, Int.reduceToNat, Int.reduceEq, Int.reduceNeg, Nat.reduceAdd, Nat.reduceLT, Nat.reduceLeDiff, Nat.reduceMul, Nat.reduceSub, AV.cells, AV.tup, Bool.true_and, true_and, and_true, List.drop_nil, List.append_nil, rd_put, rd_alloc, rdO, St.get_put, St.get_alloc, St.next_put, St.next_alloc, St.wr, Bool.and_self, Bool.and_true, List.length_cons, List.length_nil, List.take_succ_cons, List.take_zero, List.drop_succ_cons, List.drop_zero, List.cons_append, List.nil_append, Nat.zero_add, Nat.add_zero, Nat.reduceMul]
  refine .while (I3a p0 p1 n0 n1 bu Sb) id 4 ⟨rfl, rfl, rfl, rfl, Ext.refl Sb, 0, none, 0, fun _ => ⟨0, 0, 0, 0, 0⟩, fun _ => 0, fun _ => 0, rfl, rfl, rfl, Bl.nil _ _ _ _ _, fun _ => ⟨rfl, rfl⟩, fun o v w h => by cases h⟩ (by show 4 < k + 99; omega) fun r2 T2 S2 h2 => (round3a k h0 h1 r2 T2 S2 h2).mono ?_
  intro e T S h
  cases e with
  | normal => exact h
  | ret => exact absurd h.1 (by simp)
  | exit id =>
    obtain ⟨e1, r, ⟨t0, t1, t2, t6, ex, i, p, e, L, C, G, t8, hr, t7, hB, hz, hp⟩⟩ := h
    cases e1
    have qW : evF Y AP (k + 99) 4 [.int .i64 bu, .int .i64 0, .int .i64 40] S = some (.int .i64 (within bu 0 40), S) := T4 (k + 95) S (by decide) (by decide) (by decide)
    have bk := within_bd bu (show (0 : Int) ≤ 40 by decide)
    obtain ⟨kk, hkk⟩ : ∃ kk, within bu 0 40 = kk := ⟨_, rfl⟩
    rw [hkk] at qW bk
    have wk : IntKind.i64.wrap (kk * 1000) = kk * 1000 := w64_id (by omega) (by omega)
    have qB : ∀ S, evF Y AP (k + 99) 10 [.int .i64 (kk * 1000)] S = some (.int .i64 kk, S) := fun S => T10 (k + 98) bk.1 (by omega)
    have qa : ∀ S, evF Y AP (k + 99) 11 [] S = some (.bool true, S) := fun S => rfl
    by_cases hi : i = 0
    · subst hi
      obtain ⟨rfl, rfl⟩ := hz rfl
      have qP : ∀ S, evF Y AP (k + 99) 5 [.slice none 0 0 none, .int .i64 kk, .slice none 0 0 none] S = some (.slice none 0 0 none, S) := fun S => pick0 (k + 93) bk.1
      obtain ⟨A, hA⟩ : ∃ A, S.alloc (.cells [] 0 0 true) = A := ⟨_, rfl⟩
      have gA : A.get S.next = some (.cells [] 0 0 true) := by rw [← hA, St.get_alloc, if_pos rfl]
      simp -implicitDefEqProofs -dsimp (maxSteps := 10000000) only [↓goes_loop, ↓goes_seq, ↓goes_reg, ↓goes_dreg, ↓goes_preg, ↓goes_cond, ↓goes_block, ↓goes_skip, ↓goes_exit, ↓goes_ret, after_some, br_true, br_false, ↓then_normal, ↓then_exit, ↓then_ret, ↓blk_normal, ↓blk_exit, ↓blk_ret, ↓blk_other, ops_nil, ops_some, ops_none, oper_none, oper_some, gd_tt, gd_ff, gd_tf, gd_ft, gd_undef, ↓any_op, ↓any_call, ↓any_callV, ↓any_invoke, xo_t, xo_c, args_nil, args_cons, bin_add, bin_sub, bin_mul, bin_quo, bin_rem, bin_and, bin_or, bin_xor, bin_andNot, bin_eql, bin_neq, bin_lss, bin_leq, bin_gtr, bin_geq, bin_shl, bin_shr, bin_bools, bin_strs, bin_ptrs, bin_slices, bin_aggs, ↓Option.bind_some, ↓Option.map_some, ↓cond_true, ↓cond_false, evC, evOp, XO.lit, setArgs, Tr.get_set, Option.bind_some, Option.map_some, cond_true, cond_false, maxI, maxFrom, minI, minFrom, aConv, aBinE, aEq, eqScal, aUn, evRes, fin, oneOf, if_true, if_false, callee, reduceCtorEq, Nat.reduceEqDiff, and_self, decide_true, decide_false, beq_true, beq_false, Bool.not_true, Bool.not_false, List.getElem?_cons_zero, List.getElem?_cons_succ, beq_self_eq_true, gt_iff_lt, ble_dec, beq_dec, List.head?_cons, AV.undef, eq_self, ne_eq, not_true_eq_false, not_false_eq_true, Int.reduceLT, Int.reduceLE, Int.reduceToNat, Int.reduceEq, Int.reduceNeg, Nat.reduceAdd, Nat.reduceLT, Nat.reduceLeDiff, Nat.reduceMul, Nat.reduceSub, AV.cells, AV.tup, Bool.true_and, true_and, and_true, List.drop_nil, List.append_nil, rd_put, rd_alloc, rdO, St.get_put, St.get_alloc, St.next_put, St.next_alloc, St.wr, Bool.and_self, Bool.and_true, List.length_cons, List.length_nil, List.take_succ_cons, List.take_zero, List.drop_succ_cons, List.drop_zero, List.cons_append, List.nil_append, Nat.zero_add, Nat.add_zero, Nat.reduceMul, aFill, evParts, rep, List.replicate_succ, List.replicate_zero, List.flatten_cons, List.flatten_nil, List.append_nil, newSl, newVar, t2, t7, qW, qP, c0n, Nat.zero_le, Int.zero_mul, hA]
      refine .while (I3b (.bool false) (.slice none 0 0 none) (.int .i64 kk) (.slice none 0 0 none) S.next 0 A) id 0 ⟨?_, ?_, ?_, ?_, ?_, ?_, rfl, fun o ho => rfl, 0, ?_, rfl, gA⟩ (by show 0 < k + 99; omega) fun r2 T2 S2 h2 => (round3b k (by omega) r2 T2 S2 h2).mono ?_
      iterate 7 (first | focus (simp only [Tr.get_set, Nat.reduceEqDiff, if_false, if_true, t6, t7]; done) | focus (simp only [Tr.get_set, Nat.reduceEqDiff, if_false, if_true, t6, t7]; rfl) | skip)
      intro e T' S2 h
      cases e with
      | normal => exact h
      | ret => exact absurd h.1 (by simp)
      | exit id =>
        obtain ⟨e1, ⟨t6, t7, t11, t12, t13, t64, nx, old, j, t65, hr, gn⟩⟩ := h
        cases e1
        have qF : ∀ S, evF Y AP (k + 99) 6 [.slice none 0 0 none, .slice none 0 0 none, .int .i64 kk] S = some (.bool true, S) := fun S => fits0 (k + 94) bk.1
        obtain ⟨S3, q3, x3⟩ := good1 (k + 95) (S := S2) (on := S.next)
        obtain ⟨S4, q4, x4⟩ := good0 (k + 95) (S := S3)
        obtain ⟨S5, q5, x5⟩ := T7 (k + 90) (S := S4) (a := (0, 0)) (b := (0, 0))
        rw [show bet (0, 0) (0, 0) = false from rfl] at q5
        have qS : ∀ S, evF Y AP (k + 99) 9 [.slice none 0 0 none, .slice none 0 0 none] S = some (.bool true, S) := fun S => same0 (k + 96)
        simp -implicitDefEqProofs -dsimp (maxSteps := 10000000) only [↓goes_loop, ↓goes_seq, ↓goes_reg, ↓goes_dreg, ↓goes_preg, ↓goes_cond, ↓goes_block, ↓goes_skip, ↓goes_exit, ↓goes_ret, after_some, br_true, br_false, ↓then_normal, ↓then_exit, ↓then_ret, ↓blk_normal, ↓blk_exit, ↓blk_ret, ↓blk_other, ops_nil, ops_some, ops_none, oper_none, oper_some, gd_tt, gd_ff, gd_tf, gd_ft, gd_undef, ↓any_op, ↓any_call, ↓any_callV, ↓any_invoke, xo_t, xo_c, args_nil, args_cons, bin_add, bin_sub, bin_mul, bin_quo, bin_rem, bin_and, bin_or, bin_xor, bin_andNot, bin_eql, bin_neq, bin_lss, bin_leq, bin_gtr, bin_geq, bin_shl, bin_shr, bin_bools, bin_strs, bin_ptrs, bin_slices, bin_aggs, ↓Option.bind_some, ↓Option.map_some, ↓cond_true, ↓cond_false, evC, evOp, XO.lit, setArgs, Tr.get_set, Option.bind_some, Option.map_some, cond_true, cond_false, maxI, maxFrom, minI, minFrom, aConv, aBinE, aEq, eqScal, aUn, evRes, fin, oneOf, if_true, if_false, callee, reduceCtorEq, Nat.reduceEqDiff, and_self, decide_true, decide_false, beq_true, beq_false, Bool.not_true, Bool.not_false, List.getElem?_cons_zero, List.getElem?_cons_succ, beq_self_eq_true, gt_iff_lt, ble_dec, beq_dec, List.head?_cons, AV.undef, eq_self, ne_eq, not_true_eq_false, not_false_eq_true, Int.reduceLT, Int.reduceLE, Int.reduceToNat, Int.reduceEq, Int.reduceNeg, Nat.reduceAdd, Nat.reduceLT, Nat.reduceLeDiff, Nat.reduceMul, Nat.reduceSub, AV.cells, AV.tup, Bool.true_and, true_and, and_true, List.drop_nil, List.append_nil, rd_put, rd_alloc, rdO, St.get_put, St.get_alloc, St.next_put, St.next_alloc, St.wr, Bool.and_self, Bool.and_true, List.length_cons, List.length_nil, List.take_succ_cons, List.take_zero, List.drop_succ_cons, List.drop_zero, List.cons_append, List.nil_append, Nat.zero_add, Nat.add_zero, Nat.reduceMul, t7, t11, t12, t13, qF, q3, q4, q5, qP, qS, wk, qB, qa]
        exact ⟨_, _, rfl, rfl⟩
    · obtain ⟨o, v, rfl, rfl, hL⟩ := hB.lay hi
      have him : i ≤ 4 := by omega
      have mx : i ≤ 9223372036854775807 := by omega
      have hzz : 0 ≤ (i : Int) := by omega
      have hll : (i : Int) ≤ (i : Int) := Int.le_refl _
      have hm8 : (i : Int) * ((8 : Nat) : Int) ≤ 281474976710656 := by omega
      obtain ⟨S1, ob, qP, hb1, x1⟩ := pickN (k + 68) (cl := none) hi (by omega) bk.1 (by omega) (Nat.le_refl _) hL
      obtain ⟨A, hA⟩ : ∃ A, S1.alloc (.cells (rowL (fillN 0) i) 0 0 true) = A := ⟨_, rfl⟩
      have eA : Ext S1 A := hA ▸ .alloc _ _
      have nA : A.next = S1.next + 1 := by rw [← hA]; rfl
      have gA : A.get S1.next = some (.cells (rowL (fillN 0) i) 0 0 true) := by rw [← hA, St.get_alloc, if_pos rfl]
      have rz : (List.replicate i [AV.int .i64 0]).flatten = rowL (fillN 0) i := by rw [fill0]; exact rowL_zero i
      simp -implicitDefEqProofs -dsimp (maxSteps := 10000000) only [↓goes_loop, ↓goes_seq, ↓goes_reg, ↓goes_dreg, ↓goes_preg, ↓goes_cond, ↓goes_block, ↓goes_skip, ↓goes_exit, ↓goes_ret, after_some, br_true, br_false, ↓then_normal, ↓then_exit, ↓then_ret, ↓blk_normal, ↓blk_exit, ↓blk_ret, ↓blk_other, ops_nil, ops_some, ops_none, oper_none, oper_some, gd_tt, gd_ff, gd_tf, gd_ft, gd_undef, ↓any_op, ↓any_call, ↓any_callV, ↓any_invoke, xo_t, xo_c, args_nil, args_cons, bin_add, bin_sub, bin_mul, bin_quo, bin_rem, bin_and, bin_or, bin_xor, bin_andNot, bin_eql, bin_neq, bin_lss, bin_leq, bin_gtr, bin_geq, bin_shl, bin_shr, bin_bools, bin_strs, bin_ptrs, bin_slices, bin_aggs, ↓Option.bind_some, ↓Option.map_some, ↓cond_true, ↓cond_false, evC, evOp, XO.lit, setArgs, Tr.get_set, Option.bind_some, Option.map_some, cond_true, cond_false, maxI, maxFrom, minI, minFrom, aConv, aBinE, aEq, eqScal, aUn, evRes, fin, oneOf, if_true, if_false, callee, reduceCtorEq, Nat.reduceEqDiff, and_self, decide_true, decide_false, beq_true, beq_false, Bool.not_true, Bool.not_false, List.getElem?_cons_zero, List.getElem?_cons_succ, beq_self_eq_true, gt_iff_lt, ble_dec, beq_dec, List.head?_cons, AV.undef, eq_self, ne_eq, not_true_eq_false, not_false_eq_true, Int.reduceLT, Int.reduceLE, Int.reduceToNat, Int.reduceEq, Int.reduceNeg, Nat.reduceAdd, Nat.reduceLT, Nat.reduceLeDiff, Nat.reduceMul, Nat.reduceSub, AV.cells, AV.tup, Bool.true_and, true_and, and_true, List.drop_nil, List.append_nil, rd_put, rd_alloc, rdO, St.get_put, St.get_alloc, St.next_put, St.next_alloc, St.wr, Bool.and_self, Bool.and_true, List.length_cons, List.length_nil, List.take_succ_cons, List.take_zero, List.drop_succ_cons, List.drop_zero, List.cons_append, List.nil_append, Nat.zero_add, Nat.add_zero, Nat.reduceMul, aFill, evParts, rep, List.replicate_succ, List.replicate_zero, List.flatten_cons, List.flatten_nil, List.append_nil, newSl, newVar, t2, t7, qW, qP, mx, hzz, hll, hm8, Int.toNat_natCast, rz, hA]
      refine .while (I3b (.bool false) (.slice (some (o, v, 0)) i 3 none) (.int .i64 kk) (.slice (some (ob, 1, 0)) i 1 (some i)) S1.next i A) id i ⟨?_, ?_, ?_, ?_, ?_, ?_, rfl, fun o ho => rfl, 0, ?_, by show 0 + i = i; omega, gA⟩ (by show i < k + 99; omega) fun r2 T2 S2 h2 => (round3b k (by omega) r2 T2 S2 h2).mono ?_
      iterate 7 (first | focus (simp only [Tr.get_set, Nat.reduceEqDiff, if_false, if_true, t6, t7]; done) | focus (simp only [Tr.get_set, Nat.reduceEqDiff, if_false, if_true, t6, t7]; rfl) | skip)
      intro e T' S2 h
      cases e with
      | normal => exact h
      | ret => exact absurd h.1 (by simp)
      | exit id =>
        obtain ⟨e1, ⟨t6, t7, t11, t12, t13, t64, nx, old, j, t65, hrr, gn⟩⟩ := h
        cases e1
        obtain rfl : j = i := by omega
        have x2 : Ext S1 S2 := ⟨by omega, fun o ho => by rw [old o (by omega)]; exact eA.old o ho⟩
        obtain ⟨e1, e2, e3⟩ := bestF_ok L j bk.1
        have hL2 : Lay S2 o v j L C G S2.next := (hL.stay ((x1.trans x2).stay (Nat.le_refl _))).mono (by have := x1.next; have := x2.next; omega)
        have hx2 := hb1.ext x2
        obtain ⟨w3, S3, q3, rfl, x3⟩ := T6 (k + 86) (S := S2) (cl := none) (cn := some j) (bu := kk) (by omega) (Nat.le_refl _) hL2 hx2.rw e2 e3
        have hL3 : Lay S3 o v j L C G S3.next := (hL2.stay (x3.stay (Nat.le_refl _))).mono x3.next
        have hn3 : Rw S3 S1.next 0 j (fillN j) := (rw_of gn (by omega)).ext x3
        have hf : ∀ q, q < j → fillN j q = -1 := fun q hq => if_pos hq
        obtain ⟨w4, S4, q4, rfl, x4⟩ := T8 (k + 88) (S := S3) (cl := none) (cn := none) (by omega) (Nat.le_refl _) hL3 hn3 (fun q hq => .inl (hf q hq))
        rw [goodTo_none hf] at q4
        have hL4 : Lay S4 o v j L C G S4.next := (hL3.stay (x4.stay (Nat.le_refl _))).mono x4.next
        obtain ⟨w5, S5, q5, rfl, x5⟩ := T8 (k + 88) (S := S4) (cl := none) (cn := some j) (by omega) (Nat.le_refl _) hL4 ((hx2.ext x3).ext x4).rw e2
        have gb := goodTo_nn (L := L) (N := (bestF L j kk).M) (m := j) fun q hq => hL.ok q hq
        obtain ⟨g, hg⟩ : ∃ g, goodTo L (bestF L j kk).M j = g := ⟨_, rfl⟩
        rw [hg] at q5 gb
        obtain ⟨S6, q6, x6⟩ := T7 (k + 90) (S := S5) (a := (0, 0)) (b := g)
        rw [bet_zero gb.1.1 gb.2.1] at q6
        have hL6 : Lay S6 o v j L C G S6.next := (hL4.stay ((x5.trans x6).stay (Nat.le_refl _))).mono (x5.trans x6).next
        have hx6 := (hx2.ext x3).ext (x4.trans (x5.trans x6))
        obtain ⟨S7, ob2, q7, hb7, x7⟩ := pickB (k + 68) (cl := none) hi (by omega) bk.1 (by omega) (Nat.le_refl _) hL6 hx6
        obtain ⟨w8, S8, q8, rfl, rfl⟩ := T9 (k + 89) (S := S7) (c1 := some j) (c2 := some j) (by omega) hb7.rw (hx6.ext x7).rw
        simp -implicitDefEqProofs -dsimp (maxSteps := 10000000) only [↓goes_loop, ↓goes_seq, ↓goes_reg, ↓goes_dreg, ↓goes_preg, ↓goes_cond, ↓goes_block, ↓goes_skip, ↓goes_exit, ↓goes_ret, after_some, br_true, br_false, ↓then_normal, ↓then_exit, ↓then_ret, ↓blk_normal, ↓blk_exit, ↓blk_ret, ↓blk_other, ops_nil, ops_some, ops_none, oper_none, oper_some, gd_tt, gd_ff, gd_tf, gd_ft, gd_undef, ↓any_op, ↓any_call, ↓any_callV, ↓any_invoke, xo_t, xo_c, args_nil, args_cons, bin_add, bin_sub, bin_mul, bin_quo, bin_rem, bin_and, bin_or, bin_xor, bin_andNot, bin_eql, bin_neq, bin_lss, bin_leq, bin_gtr, bin_geq, bin_shl, bin_shr, bin_bools, bin_strs, bin_ptrs, bin_slices, bin_aggs, ↓Option.bind_some, ↓Option.map_some, ↓cond_true, ↓cond_false, evC, evOp, XO.lit, setArgs, Tr.get_set, Option.bind_some, Option.map_some, cond_true, cond_false, maxI, maxFrom, minI, minFrom, aConv, aBinE, aEq, eqScal, aUn, evRes, fin, oneOf, if_true, if_false, callee, reduceCtorEq, Nat.reduceEqDiff, and_self, decide_true, decide_false, beq_true, beq_false, Bool.not_true, Bool.not_false, List.getElem?_cons_zero, List.getElem?_cons_succ, beq_self_eq_true, gt_iff_lt, ble_dec, beq_dec, List.head?_cons, AV.undef, eq_self, ne_eq, not_true_eq_false, not_false_eq_true, Int.reduceLT, Int.reduceLE, Int.reduceToNat, Int.reduceEq, Int.reduceNeg, Nat.reduceAdd, Nat.reduceLT, Nat.reduceLeDiff, Nat.reduceMul, Nat.reduceSub, AV.cells, AV.tup, Bool.true_and, true_and, and_true, List.drop_nil, List.append_nil, rd_put, rd_alloc, rdO, St.get_put, St.get_alloc, St.next_put, St.next_alloc, St.wr, Bool.and_self, Bool.and_true, List.length_cons, List.length_nil, List.take_succ_cons, List.take_zero, List.drop_succ_cons, List.drop_zero, List.cons_append, List.nil_append, Nat.zero_add, Nat.add_zero, Nat.reduceMul, t7, t11, t12, t13, q3, q4, q5, q6, q7, q8, wk, qB, qa]
        exact ⟨_, _, rfl, rfl⟩
theorem law3 {p0 p1 : Option (Nat × Nat × Nat)} {n0 n1 : Nat} {xs ys : List AV} {bu : Int} (h0 : Arg p0 0 n0 [.int .i64] xs) (h1 : Arg p1 1 n1 [.int .i64] ys) (_ : (Lit.int .i64 bu).wf = true) :
    ∃ S', evF Y AP (0 + 100) 3 [.slice p0 n0 1 none, .slice p1 n1 1 none, .int .i64 bu] ((S0.alloc (.cells xs 0 0 false)).alloc (.cells ys 0 0 false)) = some (.bool true, S') := by
  obtain ⟨w, S', h, rfl⟩ := ev3 0 (bu := bu) (Sb := (S0.alloc (.cells xs 0 0 false)).alloc (.cells ys 0 0 false)) (.of_arg h0 (by simp only [St.get_alloc]; rfl) (by show 0 < 2; decide)) (.of_arg h1 (by rw [St.get_alloc]; rfl) (by show 1 < 2; decide))
  exact ⟨S', h⟩
theorem yk : XOk Tryz.prog Y := okT
end Go.Proofs.YtajakdllbpnnpaaGreatA
