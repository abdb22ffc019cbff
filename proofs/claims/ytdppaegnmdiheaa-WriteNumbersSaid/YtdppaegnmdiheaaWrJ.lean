/- Chapter 21: WriteNumbers. -/
import Derived.Test.YtdppaegnmdiheaaWrI
set_option linter.unusedVariables false
set_option linter.unusedSimpArgs false
set_option maxRecDepth 10000
namespace Go.Proofs.YtdppaegnmdiheaaA
open Go.RowKit
attribute [local congr] bind_congr1 map_congr1 cond_congr1 withX_congr after_congr br_congr gd_congr

structure N0 (kk : Nat) (Sb : St) (m : Nat) (T : Tm) (S : St) : Prop where
  t1 : T.get 1 = some (.int .i64 kk)
  ext : Ext Sb S
  more : ∃ (j : Nat) (p : Option (Nat × Nat × Nat)) (e : Nat) (c : List AV), T.get 3 = some (.int .i64 j) ∧ T.get 2 = some (.slice p j e none) ∧ Vec S p j 5 e c ∧ Okl c j ∧ (∀ o v i, p = some (o, v, i) → Sb.next ≤ o) ∧ j + m = 90
theorem tm_nn {a b : Int} (h : 0 ≤ a) : Int.tmod a b = a % b := Int.tmod_eq_emod_of_nonneg h
theorem td_nn {a b : Int} (h : 0 ≤ a) : Int.tdiv a b = a / b := Int.tdiv_eq_ediv_of_nonneg h
set_option maxHeartbeats 8000000 in
theorem roundN0 (k : Nat) {kk : Nat} (hk : kk < 40) {Sb : St} (m : Nat) (T : Tm) (S : St) (hI : N0 kk Sb m T S) :
    Goes (evF Y AP (k + 299)) (k + 299) af5_l0 T S (Then (fun T' S' => ∃ m', N0 kk Sb m' T' S' ∧ id m' < id m) fun r T' S' => r = .exit 2 ∧ N0 kk Sb 0 T' S') := by
  obtain ⟨t1, he, j, p, e, c, t3, t2, V, O, lo, hm⟩ := hI
  rcases m with _ | m
  · have c1 : ¬ (j : Int) < 90 := by omega
    simp -implicitDefEqProofs -dsimp (maxSteps := 10000000) only [af5_l0, ↓goes_loop, ↓goes_seq, ↓goes_reg, ↓goes_dreg, ↓goes_cond, ↓goes_block, ↓goes_skip, ↓goes_exit, ↓goes_ret, after_some, br_true, br_false, ↓then_normal, ↓then_exit, ↓then_ret, ↓blk_normal, ↓blk_exit, ↓blk_ret, ↓blk_other, ops_nil, ops_some, ops_none, oper_none, oper_some, gd_tt, gd_ff, gd_tf, gd_ft, gd_undef, ↓any_op, ↓any_call, ↓any_callV, ↓any_invoke, xo_t, xo_c, args_nil, args_cons, bin_add, bin_sub, bin_mul, bin_quo, bin_rem, bin_and, bin_or, bin_xor, bin_andNot, bin_eql, bin_neq, bin_lss, bin_leq, bin_gtr, bin_geq, bin_shl, bin_shr, bin_bools, bin_strs, bin_ptrs, bin_slices, bin_aggs, ↓Option.bind_some, ↓Option.map_some, ↓cond_true, ↓cond_false, evC, evOp, XO.lit, setArgs, Tr.get_set, Option.bind_some, Option.map_some, cond_true, cond_false, maxI, maxFrom, minI, minFrom, aConv, aBinE, aEq, eqScal, aUn, evRes, fin, oneOf, if_true, if_false, callee, reduceCtorEq, Nat.reduceEqDiff, and_self, decide_true, decide_false, beq_true, beq_false, Bool.not_true, Bool.not_false, List.getElem?_cons_zero, List.getElem?_cons_succ, beq_self_eq_true, gt_iff_lt, ble_dec, beq_dec, List.head?_cons, AV.undef, eq_self, ne_eq, not_true_eq_false, not_false_eq_true, Int.reduceLT, Int.reduceLE, Int.reduceToNat, Int.reduceEq, Int.reduceNeg, Nat.reduceAdd, Nat.reduceLT, Nat.reduceLeDiff, Nat.reduceMul, Nat.reduceSub, AV.cells, AV.tup, Bool.true_and, true_and, and_true, List.drop_nil, List.append_nil, rd_put, rd_alloc, rdO, St.get_put, St.get_alloc, St.next_put, St.next_alloc, St.wr, Bool.and_self, Bool.and_true, List.length_cons, List.length_nil, List.take_succ_cons, List.take_zero, List.drop_succ_cons, List.drop_zero, List.cons_append, List.nil_append, Nat.zero_add, Nat.add_zero, Nat.reduceMul, t1, t2, t3, c1]
    refine ⟨?_, he, j, p, e, c, ?_, ?_, V, O, lo, hm⟩ <;> simp only [Tr.get_set, Nat.reduceEqDiff, if_false, if_true, t1, t2, t3]
  have c1 : (j : Int) < 90 := by omega
  have jj : (j : Int) * (j : Int) ≤ 8100 ∧ 0 ≤ (j : Int) * (j : Int) := by
    have h1 := Int.mul_le_mul (show (j : Int) ≤ 90 by omega) (show (j : Int) ≤ 90 by omega) (by omega) (by decide)
    have h2 := Int.mul_nonneg (show (0 : Int) ≤ j by omega) (show (0 : Int) ≤ j by omega)
    omega
  have jk : (j : Int) * (kk : Int) ≤ 3600 ∧ 0 ≤ (j : Int) * (kk : Int) := by
    have h1 := Int.mul_le_mul (show (j : Int) ≤ 90 by omega) (show (kk : Int) ≤ 40 by omega) (by omega) (by decide)
    have h2 := Int.mul_nonneg (show (0 : Int) ≤ j by omega) (show (0 : Int) ≤ kk by omega)
    omega
  obtain ⟨q1, hq1⟩ : ∃ q, (j : Int) * (j : Int) = q := ⟨_, rfl⟩
  obtain ⟨q2, hq2⟩ : ∃ q, (j : Int) * (kk : Int) = q := ⟨_, rfl⟩
  rw [hq1] at jj
  rw [hq2] at jk
  have d4 : 0 ≤ (j : Int) / 9 ∧ (j : Int) / 9 ≤ 10 := by omega
  have z8 : ¬ (8 : Int) = 0 := by decide
  have z9 : ¬ (9 : Int) = 0 := by decide
  have z4 : ¬ (4 : Int) = 0 := by decide
  have z5 : ¬ (5 : Int) = 0 := by decide
  have z7 : ¬ (7 : Int) = 0 := by decide
  have z3 : ¬ (3 : Int) = 0 := by decide
  have w1 : IntKind.i64.wrap q1 = q1 := w64_id (by omega) (by omega)
  have w2 : IntKind.i64.wrap (q1 + (kk : Int)) = q1 + kk := w64_id (by omega) (by omega)
  have e1 : Int.tmod (q1 + (kk : Int)) 8 = (q1 + kk) % 8 := tm_nn (by omega)
  have e2 : Int.tdiv (j : Int) 9 = (j : Int) / 9 := td_nn (by omega)
  have w3 : IntKind.i64.wrap ((j : Int) / 9) = (j : Int) / 9 := w64_id (by omega) (by omega)
  have w4 : IntKind.i64.wrap ((j : Int) / 9 + (kk : Int)) = (j : Int) / 9 + kk := w64_id (by omega) (by omega)
  have e3 : Int.tmod ((j : Int) / 9 + (kk : Int)) 4 = ((j : Int) / 9 + kk) % 4 := tm_nn (by omega)
  have w5 : IntKind.i64.wrap (((j : Int) / 9 + (kk : Int)) % 4 - 1) = ((j : Int) / 9 + kk) % 4 - 1 := w64_id (by omega) (by omega)
  have w6 : IntKind.i64.wrap ((j : Int) * 2) = (j : Int) * 2 := w64_id (by omega) (by omega)
  have w7 : IntKind.i64.wrap (65500 + (j : Int) * 2) = 65500 + (j : Int) * 2 := w64_id (by omega) (by omega)
  have w8 : IntKind.i64.wrap q2 = q2 := w64_id (by omega) (by omega)
  have e4 : Int.tmod q2 5 = q2 % 5 := tm_nn (by omega)
  have w9 : IntKind.i64.wrap (65500 + (j : Int) * 2 - q2 % 5) = 65500 + (j : Int) * 2 - q2 % 5 := w64_id (by omega) (by omega)
  obtain ⟨U, hU⟩ : ∃ U, IntKind.u32.wrap (IntKind.u32.wrap (IntKind.u32.wrap (j : Int) * IntKind.u32.wrap (IntKind.i64.wrap ((kk : Int) * 3000))) - IntKind.u32.wrap (IntKind.i64.wrap ((j : Int) % 7 * 9000))) = U := ⟨_, rfl⟩
  have bU : 0 ≤ U ∧ U < 4294967296 := by rw [← hU]; exact wu32_bd _
  have e5 : Int.tmod (j : Int) 7 = (j : Int) % 7 := tm_nn (by omega)
  have w10 : IntKind.i64.wrap ((j : Int) + (kk : Int)) = (j : Int) + kk := w64_id (by omega) (by omega)
  have e6 : Int.tmod ((j : Int) + (kk : Int)) 3 = ((j : Int) + kk) % 3 := tm_nn (by omega)
  obtain ⟨by_, hby⟩ : ∃ b, decide (((j : Int) + (kk : Int)) % 3 = 0) = b := ⟨_, rfl⟩
  have wj : IntKind.i64.wrap ((j : Int) + 1) = ((j + 1 : Nat) : Int) := w64_id (by omega) (by omega)
  obtain ⟨a, ha⟩ : ∃ a, (q1 + (kk : Int)) % 8 = a := ⟨_, rfl⟩
  obtain ⟨b, hb⟩ : ∃ b, ((j : Int) / 9 + (kk : Int)) % 4 - 1 = b := ⟨_, rfl⟩
  obtain ⟨x, hx⟩ : ∃ x, 65500 + (j : Int) * 2 - q2 % 5 = x := ⟨_, rfl⟩
  rw [hb] at w5
  rw [hx] at w9
  obtain ⟨B1, hB1⟩ : ∃ B1, S.alloc (.cells [.int .i64 a, .int .i64 b, .int .i64 x, .int .u32 U, .bool by_] 0 0 true) = B1 := ⟨_, rfl⟩
  have eB : Ext S B1 := by rw [← hB1]; exact .alloc _ _
  have rB : ∀ v i m, B1.rd S.next v i m = rdO (.cells [.int .i64 a, .int .i64 b, .int .i64 x, .int .u32 U, .bool by_] 0 0 true) v i m := rd_of (by rw [← hB1, St.get_alloc, if_pos rfl])
  obtain ⟨q, S3, hap, W, G, Nn⟩ := (V.ext eB).append (bytes := 32) (xs := [.int .i64 a, .int .i64 b, .int .i64 x, .int .u32 U, .bool by_]) (n := 1) rfl (by decide) (by omega)
  have hbn := he.next
  have hbb := eB.next
  simp -implicitDefEqProofs -dsimp (maxSteps := 10000000) only [af5_l0, ↓goes_loop, ↓goes_seq, ↓goes_reg, ↓goes_dreg, ↓goes_cond, ↓goes_block, ↓goes_skip, ↓goes_exit, ↓goes_ret, after_some, br_true, br_false, ↓then_normal, ↓then_exit, ↓then_ret, ↓blk_normal, ↓blk_exit, ↓blk_ret, ↓blk_other, ops_nil, ops_some, ops_none, oper_none, oper_some, gd_tt, gd_ff, gd_tf, gd_ft, gd_undef, ↓any_op, ↓any_call, ↓any_callV, ↓any_invoke, xo_t, xo_c, args_nil, args_cons, bin_add, bin_sub, bin_mul, bin_quo, bin_rem, bin_and, bin_or, bin_xor, bin_andNot, bin_eql, bin_neq, bin_lss, bin_leq, bin_gtr, bin_geq, bin_shl, bin_shr, bin_bools, bin_strs, bin_ptrs, bin_slices, bin_aggs, ↓Option.bind_some, ↓Option.map_some, ↓cond_true, ↓cond_false, evC, evOp, XO.lit, setArgs, Tr.get_set, Option.bind_some, Option.map_some, cond_true, cond_false, maxI, maxFrom, minI, minFrom, aConv, aBinE, aEq, eqScal, aUn, evRes, fin, oneOf, if_true, if_false, callee, reduceCtorEq, Nat.reduceEqDiff, and_self, decide_true, decide_false, beq_true, beq_false, Bool.not_true, Bool.not_false, List.getElem?_cons_zero, List.getElem?_cons_succ, beq_self_eq_true, gt_iff_lt, ble_dec, beq_dec, List.head?_cons, AV.undef, eq_self, ne_eq, not_true_eq_false, not_false_eq_true, Int.reduceLT, Int.reduceLE, Int.reduceToNat, Int.reduceEq, Int.reduceNeg, Nat.reduceAdd, Nat.reduceLT, Nat.reduceLeDiff, Nat.reduceMul, Nat.reduceSub, AV.cells, AV.tup, Bool.true_and, true_and, and_true, List.drop_nil, List.append_nil, rd_put, rd_alloc, rdO, St.get_put, St.get_alloc, St.next_put, St.next_alloc, St.wr, Bool.and_self, Bool.and_true, List.length_cons, List.length_nil, List.take_succ_cons, List.take_zero, List.drop_succ_cons, List.drop_zero, List.cons_append, List.nil_append, Nat.zero_add, Nat.add_zero, Nat.reduceMul, aFill, evParts, rep, List.replicate_succ, List.replicate_zero, List.flatten_cons, List.flatten_nil, List.append_nil, newSl, newVar, t1, t2, t3, c1, hq1, hq2, z8, z9, z4, z5, z7, z3, w1, w2, e1, e2, w3, w4, e3, w5, w6, w7, w8, e4, w9, e5, w10, e6, hby, hU, ha, hb, hx, hB1, rB, hap, wj]
  refine ⟨m, ⟨?_, ?_, j + 1, q, 5, _, ?_, ?_, W, O.snoc V.sz (fun _ => by omega) bU.1 bU.2, ?_, by omega⟩, Nat.lt_succ_self m⟩
  · simp only [Tr.get_set, Nat.reduceEqDiff, if_false, if_true, t1]
  · refine ⟨Nat.le_trans (by omega) G.next, fun o ho => ?_⟩
    rw [G.old o (by omega) (fun v i h => by have := lo _ _ _ h; omega), eB.old o (by omega), he.old o ho]
  · simp only [Tr.get_set, Nat.reduceEqDiff, if_false, if_true]
  · simp only [Tr.get_set, Nat.reduceEqDiff, if_false, if_true]
  · intro o v i h
    rcases Nn o v i h with h2 | ⟨v2, i2, h2⟩
    · omega
    · exact lo _ _ _ h2
structure N1 (Sb : St) (m : Nat) (T : Tm) (S : St) : Prop where
  ext : Ext Sb S
  more : ∃ kk : Nat, T.get 1 = some (.int .i64 kk) ∧ kk + m = 40
set_option maxHeartbeats 4000000 in
theorem roundN1 (k : Nat) {Sb : St} (m : Nat) (T : Tm) (S : St) (hI : N1 Sb m T S) :
    Goes (evF Y AP (k + 299)) (k + 299) af5_l1 T S (Then (fun T' S' => ∃ m', N1 Sb m' T' S' ∧ id m' < id m) fun r T' S' => r = .exit 0 ∧ N1 Sb 0 T' S') := by
  obtain ⟨he, kk, t1, hm⟩ := hI
  rcases m with _ | m
  · have c1 : ¬ (kk : Int) < 40 := by omega
    simp -implicitDefEqProofs -dsimp (maxSteps := 10000000) only [af5_l1, ↓goes_loop, ↓goes_seq, ↓goes_reg, ↓goes_dreg, ↓goes_cond, ↓goes_block, ↓goes_skip, ↓goes_exit, ↓goes_ret, after_some, br_true, br_false, ↓then_normal, ↓then_exit, ↓then_ret, ↓blk_normal, ↓blk_exit, ↓blk_ret, ↓blk_other, ops_nil, ops_some, ops_none, oper_none, oper_some, gd_tt, gd_ff, gd_tf, gd_ft, gd_undef, ↓any_op, ↓any_call, ↓any_callV, ↓any_invoke, xo_t, xo_c, args_nil, args_cons, bin_add, bin_sub, bin_mul, bin_quo, bin_rem, bin_and, bin_or, bin_xor, bin_andNot, bin_eql, bin_neq, bin_lss, bin_leq, bin_gtr, bin_geq, bin_shl, bin_shr, bin_bools, bin_strs, bin_ptrs, bin_slices, bin_aggs, ↓Option.bind_some, ↓Option.map_some, ↓cond_true, ↓cond_false, evC, evOp, XO.lit, setArgs, Tr.get_set, Option.bind_some, Option.map_some, cond_true, cond_false, maxI, maxFrom, minI, minFrom, aConv, aBinE, aEq, eqScal, aUn, evRes, fin, oneOf, if_true, if_false, callee, reduceCtorEq, Nat.reduceEqDiff, and_self, decide_true, decide_false, beq_true, beq_false, Bool.not_true, Bool.not_false, List.getElem?_cons_zero, List.getElem?_cons_succ, beq_self_eq_true, gt_iff_lt, ble_dec, beq_dec, List.head?_cons, AV.undef, eq_self, ne_eq, not_true_eq_false, not_false_eq_true, Int.reduceLT, Int.reduceLE, Int.reduceToNat, Int.reduceEq, Int.reduceNeg, Nat.reduceAdd, Nat.reduceLT, Nat.reduceLeDiff, Nat.reduceMul, Nat.reduceSub, AV.cells, AV.tup, Bool.true_and, true_and, and_true, List.drop_nil, List.append_nil, rd_put, rd_alloc, rdO, St.get_put, St.get_alloc, St.next_put, St.next_alloc, St.wr, Bool.and_self, Bool.and_true, List.length_cons, List.length_nil, List.take_succ_cons, List.take_zero, List.drop_succ_cons, List.drop_zero, List.cons_append, List.nil_append, Nat.zero_add, Nat.add_zero, Nat.reduceMul, t1, c1]
    refine ⟨he, kk, ?_, hm⟩
    simp only [Tr.get_set, Nat.reduceEqDiff, if_false, if_true, t1]
  have c1 : (kk : Int) < 40 := by omega
  have wk : IntKind.i64.wrap ((kk : Int) + 1) = ((kk + 1 : Nat) : Int) := w64_id (by omega) (by omega)
  simp -implicitDefEqProofs -dsimp (maxSteps := 10000000) only [af5_l1, ↓goes_loop, ↓goes_seq, ↓goes_reg, ↓goes_dreg, ↓goes_cond, ↓goes_block, ↓goes_skip, ↓goes_exit, ↓goes_ret, after_some, br_true, br_false, ↓then_normal, ↓then_exit, ↓then_ret, ↓blk_normal, ↓blk_exit, ↓blk_ret, ↓blk_other, ops_nil, ops_some, ops_none, oper_none, oper_some, gd_tt, gd_ff, gd_tf, gd_ft, gd_undef, ↓any_op, ↓any_call, ↓any_callV, ↓any_invoke, xo_t, xo_c, args_nil, args_cons, bin_add, bin_sub, bin_mul, bin_quo, bin_rem, bin_and, bin_or, bin_xor, bin_andNot, bin_eql, bin_neq, bin_lss, bin_leq, bin_gtr, bin_geq, bin_shl, bin_shr, bin_bools, bin_strs, bin_ptrs, bin_slices, bin_aggs, ↓Option.bind_some, ↓Option.map_some, ↓cond_true, ↓cond_false, evC, evOp, XO.lit, setArgs, Tr.get_set, Option.bind_some, Option.map_some, cond_true, cond_false, maxI, maxFrom, minI, minFrom, aConv, aBinE, aEq, eqScal, aUn, evRes, fin, oneOf, if_true, if_false, callee, reduceCtorEq, Nat.reduceEqDiff, and_self, decide_true, decide_false, beq_true, beq_false, Bool.not_true, Bool.not_false, List.getElem?_cons_zero, List.getElem?_cons_succ, beq_self_eq_true, gt_iff_lt, ble_dec, beq_dec, List.head?_cons, AV.undef, eq_self, ne_eq, not_true_eq_false, not_false_eq_true, Int.reduceLT, Int.reduceLE, Int.reduceToNat, Int.reduceEq, Int.reduceNeg, Nat.reduceAdd, Nat.reduceLT, Nat.reduceLeDiff, Nat.reduceMul, Nat.reduceSub, AV.cells, AV.tup, Bool.true_and, true_and, and_true, List.drop_nil, List.append_nil, rd_put, rd_alloc, rdO, St.get_put, St.get_alloc, St.next_put, St.next_alloc, St.wr, Bool.and_self, Bool.and_true, List.length_cons, List.length_nil, List.take_succ_cons, List.take_zero, List.drop_succ_cons, List.drop_zero, List.cons_append, List.nil_append, Nat.zero_add, Nat.add_zero, Nat.reduceMul, t1, c1]
  refine .while (N0 kk S) id 90 ⟨?_, .refl _, 0, none, 0, [], ?_, ?_, .nil _ _ _, fun i h => absurd h (Nat.not_lt_zero _), fun _ _ _ h => (by cases h), by omega⟩ (by show 90 < k + 299; omega) fun m2 T2 S2 h2 => (roundN0 k (by omega) m2 T2 S2 h2).mono ?_
  · simp only [Tr.get_set, Nat.reduceEqDiff, if_false, if_true, t1]
  · simp only [Tr.get_set, Nat.reduceEqDiff, if_false, if_true]; rfl
  · simp only [Tr.get_set, Nat.reduceEqDiff, if_false, if_true]
  · intro r T' S' hq
    cases r with
    | normal => exact hq
    | ret => exact absurd hq.1 (by simp)
    | exit i =>
      obtain ⟨hi, t1, e2, j, p, e, c, t3, t2, V, O, lo, hj⟩ := hq
      cases hi
      obtain ⟨S3, r3, x3⟩ := T16 (k + 99) (s := IntKind.u32.wrap (kk : Int)) V.ez (Aq.of_vec V (by omega) O)
      have r3 : evF Y AP (k + 299) 16 [.int .u32 (IntKind.u32.wrap (kk : Int)), .slice p j e none] S' = _ := r3
      simp -implicitDefEqProofs -dsimp (maxSteps := 10000000) only [↓goes_loop, ↓goes_seq, ↓goes_reg, ↓goes_dreg, ↓goes_cond, ↓goes_block, ↓goes_skip, ↓goes_exit, ↓goes_ret, after_some, br_true, br_false, ↓then_normal, ↓then_exit, ↓then_ret, ↓blk_normal, ↓blk_exit, ↓blk_ret, ↓blk_other, ops_nil, ops_some, ops_none, oper_none, oper_some, gd_tt, gd_ff, gd_tf, gd_ft, gd_undef, ↓any_op, ↓any_call, ↓any_callV, ↓any_invoke, xo_t, xo_c, args_nil, args_cons, bin_add, bin_sub, bin_mul, bin_quo, bin_rem, bin_and, bin_or, bin_xor, bin_andNot, bin_eql, bin_neq, bin_lss, bin_leq, bin_gtr, bin_geq, bin_shl, bin_shr, bin_bools, bin_strs, bin_ptrs, bin_slices, bin_aggs, ↓Option.bind_some, ↓Option.map_some, ↓cond_true, ↓cond_false, evC, evOp, XO.lit, setArgs, Tr.get_set, Option.bind_some, Option.map_some, cond_true, cond_false, maxI, maxFrom, minI, minFrom, aConv, aBinE, aEq, eqScal, aUn, evRes, fin, oneOf, if_true, if_false, callee, reduceCtorEq, Nat.reduceEqDiff, and_self, decide_true, decide_false, beq_true, beq_false, Bool.not_true, Bool.not_false, List.getElem?_cons_zero, List.getElem?_cons_succ, beq_self_eq_true, gt_iff_lt, ble_dec, beq_dec, List.head?_cons, AV.undef, eq_self, ne_eq, not_true_eq_false, not_false_eq_true, Int.reduceLT, Int.reduceLE, Int.reduceToNat, Int.reduceEq, Int.reduceNeg, Nat.reduceAdd, Nat.reduceLT, Nat.reduceLeDiff, Nat.reduceMul, Nat.reduceSub, t1, t2, r3, wk]
      refine ⟨m, ⟨(he.trans e2).trans x3, kk + 1, ?_, by omega⟩, Nat.lt_succ_self m⟩
      simp only [Tr.get_set, Nat.reduceEqDiff, if_false, if_true]
set_option maxHeartbeats 8000000 in
theorem ev5 (k : Nat) (S : St) : ∃ S', evF Y AP (k + 300) 5 [] S = some (.bool true, S') := by
  suffices hh : ∃ v S', evF Y AP (k + 300) 5 [] S = some (v, S') ∧ v = .bool true by
    obtain ⟨v, S', h1, rfl⟩ := hh; exact ⟨S', h1⟩
  refine evF_goes (af := af5) (k := k + 299) rfl rfl rfl ?_
  simp -implicitDefEqProofs -dsimp (maxSteps := 10000000) only [af5, ↓goes_loop, ↓goes_seq, ↓goes_reg, ↓goes_dreg, ↓goes_cond, ↓goes_block, ↓goes_skip, ↓goes_exit, ↓goes_ret, after_some, br_true, br_false, ↓then_normal, ↓then_exit, ↓then_ret, ↓blk_normal, ↓blk_exit, ↓blk_ret, ↓blk_other, ops_nil, ops_some, ops_none, oper_none, oper_some, gd_tt, gd_ff, gd_tf, gd_ft, gd_undef, ↓any_op, ↓any_call, ↓any_callV, ↓any_invoke, xo_t, xo_c, args_nil, args_cons, bin_add, bin_sub, bin_mul, bin_quo, bin_rem, bin_and, bin_or, bin_xor, bin_andNot, bin_eql, bin_neq, bin_lss, bin_leq, bin_gtr, bin_geq, bin_shl, bin_shr, bin_bools, bin_strs, bin_ptrs, bin_slices, bin_aggs, ↓Option.bind_some, ↓Option.map_some, ↓cond_true, ↓cond_false, evC, evOp, XO.lit, setArgs, Tr.tabG, Tr.tabS, Tr.tabL, Tr.get_lf, Option.bind_some, Option.map_some, cond_true, cond_false, maxI, maxFrom, minI, minFrom, aConv, aBinE, aEq, eqScal, aUn, evRes, fin, oneOf, if_true, if_false, callee, reduceCtorEq, Nat.reduceEqDiff, and_self, decide_true, decide_false, beq_true, beq_false, Bool.not_true, Bool.not_false, List.getElem?_cons_zero, List.getElem?_cons_succ, beq_self_eq_true, gt_iff_lt, ble_dec, beq_dec, List.head?_cons, AV.undef, eq_self, ne_eq, not_true_eq_false, not_false_eq_true, Int.reduceLT, Int.reduceLE, Int.reduceToNat, Int.reduceEq, Int.reduceNeg, Nat.reduceAdd, Nat.reduceLT, Nat.reduceLeDiff, Nat.reduceMul, Nat.reduceSub]
  refine .while (N1 S) id 40 ⟨.refl _, 0, rfl, by omega⟩ (by show 40 < k + 299; omega) fun m2 T2 S2 h2 => (roundN1 k m2 T2 S2 h2).mono ?_
  intro r T' S' hq
  cases r with
  | normal => exact hq
  | ret => exact absurd hq.1 (by simp)
  | exit i =>
    obtain ⟨hi, _⟩ := hq
    cases hi
    let cs : List AV := [.int .i64 6, .int .i64 2, .int .i64 0, .int .u32 0, .bool false, .int .i64 0, .int .i64 2, .int .i64 (-1), .int .u32 0, .bool true, .int .i64 0, .int .i64 2, .int .i64 1099511627776, .int .u32 4294967295, .bool true, .int .i64 0, .int .i64 2, .int .i64 1099511627777, .int .u32 5, .bool false, .int .i64 6, .int .i64 (-9), .int .i64 0, .int .u32 0, .bool false, .int .i64 6, .int .i64 0, .int .i64 0, .int .u32 0, .bool false, .int .i64 0, .int .i64 0, .int .i64 3, .int .u32 1, .bool true]
    have V : Vec (S'.alloc (.cells cs 0 0 true)) (some (S'.next, 0, 0)) 7 5 5 cs := ⟨.inr rfl, rfl, .inr ⟨S'.next, 0, 0, rfl, Nat.lt_succ_self _, by rw [St.get_alloc, if_pos rfl], Nat.le_refl _⟩⟩
    have O : Okl cs 7 := by
      intro i hi _
      match i, hi with
      | 0, _ => exact ⟨_, _, _, _, _, rfl, by decide, by decide, by decide⟩
      | 1, _ => exact ⟨_, _, _, _, _, rfl, by decide, by decide, by decide⟩
      | 2, _ => exact ⟨_, _, _, _, _, rfl, by decide, by decide, by decide⟩
      | 3, _ => exact ⟨_, _, _, _, _, rfl, by decide, by decide, by decide⟩
      | 4, _ => exact ⟨_, _, _, _, _, rfl, by decide, by decide, by decide⟩
      | 5, _ => exact ⟨_, _, _, _, _, rfl, by decide, by decide, by decide⟩
      | 6, _ => exact ⟨_, _, _, _, _, rfl, by decide, by decide, by decide⟩
    obtain ⟨S3, r3, x3⟩ := T16 (k + 99) (s := 1) V.ez (Aq.of_vec V (by omega) O)
    have r3 : evF Y AP (k + 299) 16 [.int .u32 1, .slice (some (S'.next, 0, 0)) 7 5 none] (S'.alloc (.cells [.int .i64 6, .int .i64 2, .int .i64 0, .int .u32 0, .bool false, .int .i64 0, .int .i64 2, .int .i64 (-1), .int .u32 0, .bool true, .int .i64 0, .int .i64 2, .int .i64 1099511627776, .int .u32 4294967295, .bool true, .int .i64 0, .int .i64 2, .int .i64 1099511627777, .int .u32 5, .bool false, .int .i64 6, .int .i64 (-9), .int .i64 0, .int .u32 0, .bool false, .int .i64 6, .int .i64 0, .int .i64 0, .int .u32 0, .bool false, .int .i64 0, .int .i64 0, .int .i64 3, .int .u32 1, .bool true] 0 0 true)) = _ := r3
    clear_value cs
    simp -implicitDefEqProofs -dsimp (maxSteps := 10000000) only [↓goes_loop, ↓goes_seq, ↓goes_reg, ↓goes_dreg, ↓goes_cond, ↓goes_block, ↓goes_skip, ↓goes_exit, ↓goes_ret, after_some, br_true, br_false, ↓then_normal, ↓then_exit, ↓then_ret, ↓blk_normal, ↓blk_exit, ↓blk_ret, ↓blk_other, ops_nil, ops_some, ops_none, oper_none, oper_some, gd_tt, gd_ff, gd_tf, gd_ft, gd_undef, ↓any_op, ↓any_call, ↓any_callV, ↓any_invoke, xo_t, xo_c, args_nil, args_cons, bin_add, bin_sub, bin_mul, bin_quo, bin_rem, bin_and, bin_or, bin_xor, bin_andNot, bin_eql, bin_neq, bin_lss, bin_leq, bin_gtr, bin_geq, bin_shl, bin_shr, bin_bools, bin_strs, bin_ptrs, bin_slices, bin_aggs, ↓Option.bind_some, ↓Option.map_some, ↓cond_true, ↓cond_false, evC, evOp, XO.lit, setArgs, Tr.get_set, Option.bind_some, Option.map_some, cond_true, cond_false, maxI, maxFrom, minI, minFrom, aConv, aBinE, aEq, eqScal, aUn, evRes, fin, oneOf, if_true, if_false, callee, reduceCtorEq, Nat.reduceEqDiff, and_self, decide_true, decide_false, beq_true, beq_false, Bool.not_true, Bool.not_false, List.getElem?_cons_zero, List.getElem?_cons_succ, beq_self_eq_true, gt_iff_lt, ble_dec, beq_dec, List.head?_cons, AV.undef, eq_self, ne_eq, not_true_eq_false, not_false_eq_true, Int.reduceLT, Int.reduceLE, Int.reduceToNat, Int.reduceEq, Int.reduceNeg, Nat.reduceAdd, Nat.reduceLT, Nat.reduceLeDiff, Nat.reduceMul, Nat.reduceSub, aFill, evParts, rep, List.replicate_succ, List.replicate_zero, List.flatten_cons, List.flatten_nil, List.append_nil, newSl, newVar, AV.cells, AV.tup, Bool.true_and, true_and, and_true, List.drop_nil, List.append_nil, rd_put, rd_alloc, rdO, St.get_put, St.get_alloc, St.next_put, St.next_alloc, St.wr, Bool.and_self, Bool.and_true, List.length_cons, List.length_nil, List.take_succ_cons, List.take_zero, List.drop_succ_cons, List.drop_zero, List.cons_append, List.nil_append, Nat.zero_add, Nat.add_zero, Nat.reduceMul, r3, y14]
    exact ⟨_, _, rfl, rfl⟩
theorem law5 : ∃ S', evF Y AP (0 + 300) 5 [] S0 = some (.bool true, S') := ev5 0 S0
end Go.Proofs.YtdppaegnmdiheaaA
