/- Chapter 11: PaceNumbers. -/
import Derived.Test.YtkjmhhoioanolaaPcL
set_option linter.unusedVariables false
set_option linter.unusedSimpArgs false
set_option maxRecDepth 10000
namespace Go.Proofs.YtkjmhhoioanolaaA
open Go.RowKit
attribute [local congr] bind_congr1 map_congr1 cond_congr1 withX_congr after_congr br_congr gd_congr

theorem tm_nn {a b : Int} (h : 0 ≤ a) : Int.tmod a b = a % b := Int.tmod_eq_emod_of_nonneg h
structure N1 (kk : Nat) (Sb : St) (m : Nat) (T : Tm) (S : St) : Prop where
  t1 : T.get 1 = some (.int .i64 kk)
  ext : Ext Sb S
  more : ∃ (j : Nat) (p : Option (Nat × Nat × Nat)) (e : Nat) (c : List AV), T.get 3 = some (.int .i64 j) ∧ T.get 2 = some (.slice p j e none) ∧ Vec S p j 2 e c ∧ (∀ i, i < j → Scs ask ((c.drop (i * 2)).take 2)) ∧ (∀ o v i, p = some (o, v, i) → Sb.next ≤ o) ∧ j + m = 80
set_option maxHeartbeats 8000000 in
theorem roundN1 (k : Nat) {kk : Nat} (hk : kk < 40) {Sb : St} (m : Nat) (T : Tm) (S : St) (hI : N1 kk Sb m T S) :
    Goes (evF Y AP (k + 2999)) (k + 2999) af5_l1 T S (Then (fun T' S' => ∃ m', N1 kk Sb m' T' S' ∧ id m' < id m) fun r T' S' => r = .exit 2 ∧ N1 kk Sb 0 T' S') := by
  obtain ⟨t1, he, j, p, e, c, t3, t2, V, O, lo, hm⟩ := hI
  rcases m with _ | m
  · have c1 : ¬ (j : Int) < 80 := by omega
    simp -implicitDefEqProofs -dsimp (maxSteps := 10000000) only [af5_l1, ↓goes_loop, ↓goes_seq, ↓goes_reg, ↓goes_dreg, ↓goes_cond, ↓goes_block, ↓goes_skip, ↓goes_exit, ↓goes_ret, after_some, br_true, br_false, ↓then_normal, ↓then_exit, ↓then_ret, ↓blk_normal, ↓blk_exit, ↓blk_ret, ↓blk_other, ops_nil, ops_some, ops_none, oper_none, oper_some, gd_tt, gd_ff, gd_tf, gd_ft, gd_undef, ↓any_op, ↓any_call, ↓any_callV, ↓any_invoke, xo_t, xo_c, args_nil, args_cons, bin_add, bin_sub, bin_mul, bin_quo, bin_rem, bin_and, bin_or, bin_xor, bin_andNot, bin_eql, bin_neq, bin_lss, bin_leq, bin_gtr, bin_geq, bin_shl, bin_shr, bin_bools, bin_strs, bin_ptrs, bin_slices, bin_aggs, ↓Option.bind_some, ↓Option.map_some, ↓cond_true, ↓cond_false, evC, evOp, XO.lit, setArgs, Tr.get_set, Option.bind_some, Option.map_some, cond_true, cond_false, maxI, maxFrom, minI, minFrom, aConv, aBinE, aEq, eqScal, aUn, evRes, fin, oneOf, if_true, if_false, callee, reduceCtorEq, Nat.reduceEqDiff, and_self, decide_true, decide_false, beq_true, beq_false, Bool.not_true, Bool.not_false, List.getElem?_cons_zero, List.getElem?_cons_succ, beq_self_eq_true, gt_iff_lt, ble_dec, beq_dec, List.head?_cons, AV.undef, eq_self, ne_eq, not_true_eq_false, not_false_eq_true, Int.reduceLT, Int.reduceLE, Int.reduceToNat, Int.reduceEq, Int.reduceNeg, Nat.reduceAdd, Nat.reduceLT, Nat.reduceLeDiff, Nat.reduceMul, Nat.reduceSub, AV.cells, AV.tup, Bool.true_and, true_and, and_true, List.drop_nil, List.append_nil, rd_put, rd_alloc, rdO, St.get_put, St.get_alloc, St.next_put, St.next_alloc, St.wr, Bool.and_self, Bool.and_true, List.length_cons, List.length_nil, List.take_succ_cons, List.take_zero, List.drop_succ_cons, List.drop_zero, List.cons_append, List.nil_append, Nat.zero_add, Nat.add_zero, Nat.reduceMul, t1, t2, t3, c1]
    refine ⟨?_, he, j, p, e, c, ?_, ?_, V, O, lo, hm⟩ <;> simp only [Tr.get_set, Nat.reduceEqDiff, if_false, if_true, t1, t2, t3]
  have c1 : (j : Int) < 80 := by omega
  have jj : (j : Int) * (j : Int) ≤ 6400 ∧ 0 ≤ (j : Int) * (j : Int) := by
    have h1 := Int.mul_le_mul (show (j : Int) ≤ 80 by omega) (show (j : Int) ≤ 80 by omega) (by omega) (by decide)
    have h2 := Int.mul_nonneg (show (0 : Int) ≤ j by omega) (show (0 : Int) ≤ j by omega)
    omega
  have jk : (j : Int) * (kk : Int) ≤ 3200 ∧ 0 ≤ (j : Int) * (kk : Int) := by
    have h1 := Int.mul_le_mul (show (j : Int) ≤ 80 by omega) (show (kk : Int) ≤ 40 by omega) (by omega) (by decide)
    have h2 := Int.mul_nonneg (show (0 : Int) ≤ j by omega) (show (0 : Int) ≤ kk by omega)
    omega
  obtain ⟨q1, hq1⟩ : ∃ q, (j : Int) * (j : Int) = q := ⟨_, rfl⟩
  obtain ⟨q2, hq2⟩ : ∃ q, (j : Int) * (kk : Int) = q := ⟨_, rfl⟩
  rw [hq1] at jj
  rw [hq2] at jk
  have z6 : ¬ (6 : Int) = 0 := by decide
  have z600 : ¬ (600 : Int) = 0 := by decide
  have w1 : IntKind.i64.wrap q1 = q1 := w64_id (by omega) (by omega)
  have w2 : IntKind.i64.wrap (q1 + (kk : Int)) = q1 + kk := w64_id (by omega) (by omega)
  have e1 : Int.tmod (q1 + (kk : Int)) 6 = (q1 + kk) % 6 := tm_nn (by omega)
  have w8 : IntKind.i64.wrap q2 = q2 := w64_id (by omega) (by omega)
  have w9 : IntKind.i64.wrap (q2 * 7) = q2 * 7 := w64_id (by omega) (by omega)
  have e4 : Int.tmod (q2 * 7) 600 = (q2 * 7) % 600 := tm_nn (by omega)
  have wj : IntKind.i64.wrap ((j : Int) + 1) = ((j + 1 : Nat) : Int) := w64_id (by omega) (by omega)
  obtain ⟨a, ha⟩ : ∃ a, (q1 + (kk : Int)) % 6 = a := ⟨_, rfl⟩
  obtain ⟨b, hb⟩ : ∃ b, (q2 * 7) % 600 = b := ⟨_, rfl⟩
  obtain ⟨B1, hB1⟩ : ∃ B1, S.alloc (.cells [.int .i64 a, .int .i64 b] 0 0 true) = B1 := ⟨_, rfl⟩
  have eB : Ext S B1 := by rw [← hB1]; exact .alloc _ _
  have rB : ∀ v i m, B1.rd S.next v i m = rdO (.cells [.int .i64 a, .int .i64 b] 0 0 true) v i m := rd_of (by rw [← hB1, St.get_alloc, if_pos rfl])
  obtain ⟨q, S3, hap, W, G, Nn⟩ := (V.ext eB).append (bytes := 16) (xs := [.int .i64 a, .int .i64 b]) (n := 1) rfl (by decide) (by omega)
  have hbn := he.next
  have hbb := eB.next
  simp -implicitDefEqProofs -dsimp (maxSteps := 10000000) only [af5_l1, ↓goes_loop, ↓goes_seq, ↓goes_reg, ↓goes_dreg, ↓goes_cond, ↓goes_block, ↓goes_skip, ↓goes_exit, ↓goes_ret, after_some, br_true, br_false, ↓then_normal, ↓then_exit, ↓then_ret, ↓blk_normal, ↓blk_exit, ↓blk_ret, ↓blk_other, ops_nil, ops_some, ops_none, oper_none, oper_some, gd_tt, gd_ff, gd_tf, gd_ft, gd_undef, ↓any_op, ↓any_call, ↓any_callV, ↓any_invoke, xo_t, xo_c, args_nil, args_cons, bin_add, bin_sub, bin_mul, bin_quo, bin_rem, bin_and, bin_or, bin_xor, bin_andNot, bin_eql, bin_neq, bin_lss, bin_leq, bin_gtr, bin_geq, bin_shl, bin_shr, bin_bools, bin_strs, bin_ptrs, bin_slices, bin_aggs, ↓Option.bind_some, ↓Option.map_some, ↓cond_true, ↓cond_false, evC, evOp, XO.lit, setArgs, Tr.get_set, Option.bind_some, Option.map_some, cond_true, cond_false, maxI, maxFrom, minI, minFrom, aConv, aBinE, aEq, eqScal, aUn, evRes, fin, oneOf, if_true, if_false, callee, reduceCtorEq, Nat.reduceEqDiff, and_self, decide_true, decide_false, beq_true, beq_false, Bool.not_true, Bool.not_false, List.getElem?_cons_zero, List.getElem?_cons_succ, beq_self_eq_true, gt_iff_lt, ble_dec, beq_dec, List.head?_cons, AV.undef, eq_self, ne_eq, not_true_eq_false, not_false_eq_true, Int.reduceLT, Int.reduceLE, Int.reduceToNat, Int.reduceEq, Int.reduceNeg, Nat.reduceAdd, Nat.reduceLT, Nat.reduceLeDiff, Nat.reduceMul, Nat.reduceSub, AV.cells, AV.tup, Bool.true_and, true_and, and_true, List.drop_nil, List.append_nil, rd_put, rd_alloc, rdO, St.get_put, St.get_alloc, St.next_put, St.next_alloc, St.wr, Bool.and_self, Bool.and_true, List.length_cons, List.length_nil, List.take_succ_cons, List.take_zero, List.drop_succ_cons, List.drop_zero, List.cons_append, List.nil_append, Nat.zero_add, Nat.add_zero, Nat.reduceMul, aFill, evParts, rep, List.replicate_succ, List.replicate_zero, List.flatten_cons, List.flatten_nil, List.append_nil, newSl, newVar, t1, t2, t3, c1, hq1, hq2, z6, z600, w1, w2, e1, w8, w9, e4, ha, hb, hB1, rB, hap, wj]
  refine ⟨m, ⟨?_, ?_, j + 1, q, 2, _, ?_, ?_, W, Scs_snoc (ks := ask) V.sz O ⟨⟨rfl, mk_i64 (by omega) (by omega)⟩, ⟨rfl, mk_i64 (by omega) (by omega)⟩, trivial⟩, ?_, by omega⟩, Nat.lt_succ_self m⟩
  · simp only [Tr.get_set, Nat.reduceEqDiff, if_false, if_true, t1]
  · refine ⟨Nat.le_trans (by omega) G.next, fun o ho => ?_⟩
    rw [G.old o (by omega) (fun v i h => by have := lo _ _ _ h; omega), eB.old o (by omega), he.old o ho]
  · simp only [Tr.get_set, Nat.reduceEqDiff, if_false, if_true]
  · simp only [Tr.get_set, Nat.reduceEqDiff, if_false, if_true]
  · intro o v i h
    rcases Nn o v i h with h2 | ⟨v2, i2, h2⟩
    · omega
    · exact lo _ _ _ h2
structure N2 (Sb : St) (m : Nat) (T : Tm) (S : St) : Prop where
  ext : Ext Sb S
  more : ∃ kk : Nat, T.get 1 = some (.int .i64 kk) ∧ kk + m = 40
set_option maxHeartbeats 4000000 in
theorem roundN2 (k : Nat) {Sb : St} (m : Nat) (T : Tm) (S : St) (hI : N2 Sb m T S) :
    Goes (evF Y AP (k + 2999)) (k + 2999) af5_l2 T S (Then (fun T' S' => ∃ m', N2 Sb m' T' S' ∧ id m' < id m) fun r T' S' => r = .exit 0 ∧ N2 Sb 0 T' S') := by
  obtain ⟨he, kk, t1, hm⟩ := hI
  rcases m with _ | m
  · have c1 : ¬ (kk : Int) < 40 := by omega
    simp -implicitDefEqProofs -dsimp (maxSteps := 10000000) only [af5_l2, ↓goes_loop, ↓goes_seq, ↓goes_reg, ↓goes_dreg, ↓goes_cond, ↓goes_block, ↓goes_skip, ↓goes_exit, ↓goes_ret, after_some, br_true, br_false, ↓then_normal, ↓then_exit, ↓then_ret, ↓blk_normal, ↓blk_exit, ↓blk_ret, ↓blk_other, ops_nil, ops_some, ops_none, oper_none, oper_some, gd_tt, gd_ff, gd_tf, gd_ft, gd_undef, ↓any_op, ↓any_call, ↓any_callV, ↓any_invoke, xo_t, xo_c, args_nil, args_cons, bin_add, bin_sub, bin_mul, bin_quo, bin_rem, bin_and, bin_or, bin_xor, bin_andNot, bin_eql, bin_neq, bin_lss, bin_leq, bin_gtr, bin_geq, bin_shl, bin_shr, bin_bools, bin_strs, bin_ptrs, bin_slices, bin_aggs, ↓Option.bind_some, ↓Option.map_some, ↓cond_true, ↓cond_false, evC, evOp, XO.lit, setArgs, Tr.get_set, Option.bind_some, Option.map_some, cond_true, cond_false, maxI, maxFrom, minI, minFrom, aConv, aBinE, aEq, eqScal, aUn, evRes, fin, oneOf, if_true, if_false, callee, reduceCtorEq, Nat.reduceEqDiff, and_self, decide_true, decide_false, beq_true, beq_false, Bool.not_true, Bool.not_false, List.getElem?_cons_zero, List.getElem?_cons_succ, beq_self_eq_true, gt_iff_lt, ble_dec, beq_dec, List.head?_cons, AV.undef, eq_self, ne_eq, not_true_eq_false, not_false_eq_true, Int.reduceLT, Int.reduceLE, Int.reduceToNat, Int.reduceEq, Int.reduceNeg, Nat.reduceAdd, Nat.reduceLT, Nat.reduceLeDiff, Nat.reduceMul, Nat.reduceSub, AV.cells, AV.tup, Bool.true_and, true_and, and_true, List.drop_nil, List.append_nil, rd_put, rd_alloc, rdO, St.get_put, St.get_alloc, St.next_put, St.next_alloc, St.wr, Bool.and_self, Bool.and_true, List.length_cons, List.length_nil, List.take_succ_cons, List.take_zero, List.drop_succ_cons, List.drop_zero, List.cons_append, List.nil_append, Nat.zero_add, Nat.add_zero, Nat.reduceMul, t1, c1]
    refine ⟨he, kk, ?_, hm⟩
    simp only [Tr.get_set, Nat.reduceEqDiff, if_false, if_true, t1]
  have c1 : (kk : Int) < 40 := by omega
  have wk : IntKind.i64.wrap ((kk : Int) + 1) = ((kk + 1 : Nat) : Int) := w64_id (by omega) (by omega)
  simp -implicitDefEqProofs -dsimp (maxSteps := 10000000) only [af5_l2, ↓goes_loop, ↓goes_seq, ↓goes_reg, ↓goes_dreg, ↓goes_cond, ↓goes_block, ↓goes_skip, ↓goes_exit, ↓goes_ret, after_some, br_true, br_false, ↓then_normal, ↓then_exit, ↓then_ret, ↓blk_normal, ↓blk_exit, ↓blk_ret, ↓blk_other, ops_nil, ops_some, ops_none, oper_none, oper_some, gd_tt, gd_ff, gd_tf, gd_ft, gd_undef, ↓any_op, ↓any_call, ↓any_callV, ↓any_invoke, xo_t, xo_c, args_nil, args_cons, bin_add, bin_sub, bin_mul, bin_quo, bin_rem, bin_and, bin_or, bin_xor, bin_andNot, bin_eql, bin_neq, bin_lss, bin_leq, bin_gtr, bin_geq, bin_shl, bin_shr, bin_bools, bin_strs, bin_ptrs, bin_slices, bin_aggs, ↓Option.bind_some, ↓Option.map_some, ↓cond_true, ↓cond_false, evC, evOp, XO.lit, setArgs, Tr.get_set, Option.bind_some, Option.map_some, cond_true, cond_false, maxI, maxFrom, minI, minFrom, aConv, aBinE, aEq, eqScal, aUn, evRes, fin, oneOf, if_true, if_false, callee, reduceCtorEq, Nat.reduceEqDiff, and_self, decide_true, decide_false, beq_true, beq_false, Bool.not_true, Bool.not_false, List.getElem?_cons_zero, List.getElem?_cons_succ, beq_self_eq_true, gt_iff_lt, ble_dec, beq_dec, List.head?_cons, AV.undef, eq_self, ne_eq, not_true_eq_false, not_false_eq_true, Int.reduceLT, Int.reduceLE, Int.reduceToNat, Int.reduceEq, Int.reduceNeg, Nat.reduceAdd, Nat.reduceLT, Nat.reduceLeDiff, Nat.reduceMul, Nat.reduceSub, AV.cells, AV.tup, Bool.true_and, true_and, and_true, List.drop_nil, List.append_nil, rd_put, rd_alloc, rdO, St.get_put, St.get_alloc, St.next_put, St.next_alloc, St.wr, Bool.and_self, Bool.and_true, List.length_cons, List.length_nil, List.take_succ_cons, List.take_zero, List.drop_succ_cons, List.drop_zero, List.cons_append, List.nil_append, Nat.zero_add, Nat.add_zero, Nat.reduceMul, t1, c1]
  refine .while (N1 kk S) id 80 ⟨?_, .refl _, 0, none, 0, [], ?_, ?_, .nil _ _ _, fun i h => absurd h (Nat.not_lt_zero _), fun _ _ _ h => (by cases h), by omega⟩ (by show 80 < k + 2999; omega) fun m2 T2 S2 h2 => (roundN1 k (by omega) m2 T2 S2 h2).mono ?_
  · simp only [Tr.get_set, Nat.reduceEqDiff, if_false, if_true, t1]
  · simp only [Tr.get_set, Nat.reduceEqDiff, if_false, if_true]; rfl
  · simp only [Tr.get_set, Nat.reduceEqDiff, if_false, if_true]
  · intro r T' S' hq
    cases r with
    | normal => exact hq
    | ret => exact absurd hq.1 (by simp)
    | exit i =>
      obtain ⟨hi, t1, e2, j, p, e, c, t3, t2, V, O, lo, hj⟩ := hq
      cases hi
      have sl := V.sl (ks := ask) (by omega) O
      obtain ⟨S3, r3, x3⟩ := T15 (k + 999) (e := e) sl V.ez (IntKind.i64.wrap ((kk : Int) * 1000)) (IntKind.i64.wrap ((kk : Int) * 60))
      have r3 : evF Y AP (k + 2999) 15 [.int .i64 (IntKind.i64.wrap ((kk : Int) * 1000)), .int .i64 (IntKind.i64.wrap ((kk : Int) * 60)), .slice p j e none] S' = _ := r3
      obtain ⟨S4, r4, x4⟩ := T15 (k + 999) (e := e) (sl.ext x3) V.ez 1048576 1048576
      have r4 : evF Y AP (k + 2999) 15 [.int .i64 1048576, .int .i64 1048576, .slice p j e none] S3 = _ := r4
      simp -implicitDefEqProofs -dsimp (maxSteps := 10000000) only [↓goes_loop, ↓goes_seq, ↓goes_reg, ↓goes_dreg, ↓goes_cond, ↓goes_block, ↓goes_skip, ↓goes_exit, ↓goes_ret, after_some, br_true, br_false, ↓then_normal, ↓then_exit, ↓then_ret, ↓blk_normal, ↓blk_exit, ↓blk_ret, ↓blk_other, ops_nil, ops_some, ops_none, oper_none, oper_some, gd_tt, gd_ff, gd_tf, gd_ft, gd_undef, ↓any_op, ↓any_call, ↓any_callV, ↓any_invoke, xo_t, xo_c, args_nil, args_cons, bin_add, bin_sub, bin_mul, bin_quo, bin_rem, bin_and, bin_or, bin_xor, bin_andNot, bin_eql, bin_neq, bin_lss, bin_leq, bin_gtr, bin_geq, bin_shl, bin_shr, bin_bools, bin_strs, bin_ptrs, bin_slices, bin_aggs, ↓Option.bind_some, ↓Option.map_some, ↓cond_true, ↓cond_false, evC, evOp, XO.lit, setArgs, Tr.get_set, Option.bind_some, Option.map_some, cond_true, cond_false, maxI, maxFrom, minI, minFrom, aConv, aBinE, aEq, eqScal, aUn, evRes, fin, oneOf, if_true, if_false, callee, reduceCtorEq, Nat.reduceEqDiff, and_self, decide_true, decide_false, beq_true, beq_false, Bool.not_true, Bool.not_false, List.getElem?_cons_zero, List.getElem?_cons_succ, beq_self_eq_true, gt_iff_lt, ble_dec, beq_dec, List.head?_cons, AV.undef, eq_self, ne_eq, not_true_eq_false, not_false_eq_true, Int.reduceLT, Int.reduceLE, Int.reduceToNat, Int.reduceEq, Int.reduceNeg, Nat.reduceAdd, Nat.reduceLT, Nat.reduceLeDiff, Nat.reduceMul, Nat.reduceSub, t1, t2, r3, r4, wk]
      refine ⟨m, ⟨((he.trans e2).trans x3).trans x4, kk + 1, ?_, by omega⟩, Nat.lt_succ_self m⟩
      simp only [Tr.get_set, Nat.reduceEqDiff, if_false, if_true]
structure N0 (q ob : Nat) (Sb : St) (m : Nat) (T : Tm) (S : St) : Prop where
  t4 : T.get 4 = some (pt q)
  more : ∃ (j : Nat) (cut : Int), T.get 5 = some (.int .i64 j) ∧ j + m = 19 ∧ Sg Sb q ob (List.replicate (min j 16) [1]) (newB 5 50000) cut S ∧ cut = (j : Int) - (min j 16 : Nat)
set_option maxHeartbeats 4000000 in
theorem roundN0 (k : Nat) {q ob : Nat} {Sb : St} (m : Nat) (T : Tm) (S : St) (hI : N0 q ob Sb m T S) :
    Goes (evF Y AP (k + 1999)) (k + 1999) af5_l0 T S (Then (fun T' S' => ∃ m', N0 q ob Sb m' T' S' ∧ id m' < id m) fun r T' S' => r = .exit 4 ∧ N0 q ob Sb 0 T' S') := by
  obtain ⟨t4, j, cut, t5, hm, G, hc⟩ := hI
  rcases m with _ | m
  · have c1 : ¬ (j : Int) < 19 := by omega
    simp -implicitDefEqProofs -dsimp (maxSteps := 10000000) only [af5_l0, ↓goes_loop, ↓goes_seq, ↓goes_reg, ↓goes_dreg, ↓goes_cond, ↓goes_block, ↓goes_skip, ↓goes_exit, ↓goes_ret, after_some, br_true, br_false, ↓then_normal, ↓then_exit, ↓then_ret, ↓blk_normal, ↓blk_exit, ↓blk_ret, ↓blk_other, ops_nil, ops_some, ops_none, oper_none, oper_some, gd_tt, gd_ff, gd_tf, gd_ft, gd_undef, ↓any_op, ↓any_call, ↓any_callV, ↓any_invoke, xo_t, xo_c, args_nil, args_cons, bin_add, bin_sub, bin_mul, bin_quo, bin_rem, bin_and, bin_or, bin_xor, bin_andNot, bin_eql, bin_neq, bin_lss, bin_leq, bin_gtr, bin_geq, bin_shl, bin_shr, bin_bools, bin_strs, bin_ptrs, bin_slices, bin_aggs, ↓Option.bind_some, ↓Option.map_some, ↓cond_true, ↓cond_false, evC, evOp, XO.lit, setArgs, Tr.get_set, Option.bind_some, Option.map_some, cond_true, cond_false, maxI, maxFrom, minI, minFrom, aConv, aBinE, aEq, eqScal, aUn, evRes, fin, oneOf, if_true, if_false, callee, reduceCtorEq, Nat.reduceEqDiff, and_self, decide_true, decide_false, beq_true, beq_false, Bool.not_true, Bool.not_false, List.getElem?_cons_zero, List.getElem?_cons_succ, beq_self_eq_true, gt_iff_lt, ble_dec, beq_dec, List.head?_cons, AV.undef, eq_self, ne_eq, not_true_eq_false, not_false_eq_true, Int.reduceLT, Int.reduceLE, Int.reduceToNat, Int.reduceEq, Int.reduceNeg, Nat.reduceAdd, Nat.reduceLT, Nat.reduceLeDiff, Nat.reduceMul, Nat.reduceSub, AV.cells, AV.tup, Bool.true_and, true_and, and_true, List.drop_nil, List.append_nil, rd_put, rd_alloc, rdO, St.get_put, St.get_alloc, St.next_put, St.next_alloc, St.wr, Bool.and_self, Bool.and_true, List.length_cons, List.length_nil, List.take_succ_cons, List.take_zero, List.drop_succ_cons, List.drop_zero, List.cons_append, List.nil_append, Nat.zero_add, Nat.add_zero, Nat.reduceMul, t4, t5, c1]
    refine ⟨?_, j, cut, ?_, hm, G, hc⟩ <;> simp only [Tr.get_set, Nat.reduceEqDiff, if_false, if_true, t4, t5]
  have c1 : (j : Int) < 19 := by omega
  have wj : IntKind.i64.wrap ((j : Int) + 1) = ((j + 1 : Nat) : Int) := w64_id (by omega) (by omega)
  obtain ⟨A, hA⟩ : ∃ A, S.alloc (.cells [.int .u8 1] 0 0 true) = A := ⟨_, rfl⟩
  have eA : Ext S A := by rw [← hA]; exact .alloc _ _
  have nA : A.next = S.next + 1 := by rw [← hA]; rfl
  have gA : A.get S.next = some (.cells (bv [1]) 0 0 true) := by rw [← hA, St.get_alloc, if_pos rfl]; rfl
  obtain ⟨S1, r9, G1⟩ := (G.more eA).put k (l := [1]) (n := 1) (by omega) (fun b hb => by rw [List.mem_singleton.1 hb]; decide) rfl (by omega) gA
  have hu : (newB 5 50000).u = 50000 := by decide
  have hp : putB (List.replicate (min j 16) [1]) (newB 5 50000) [1] = decide ((j : Int) < 16) := by
    unfold putB
    rw [hu, List.length_replicate]
    simp only [List.length_cons, List.length_nil]
    by_cases h : (j : Int) < 16
    · rw [decide_eq_true h]; exact decide_eq_true ⟨by omega, by decide⟩
    · rw [decide_eq_false h]; exact decide_eq_false fun h2 => by omega
  rw [hp] at r9
  have hxx : ∀ b : Bool, (b == b) = true := fun b => by cases b <;> rfl
  obtain ⟨bb, hbb⟩ : ∃ bb, decide ((j : Int) < 16) = bb := ⟨_, rfl⟩
  rw [hbb] at r9 hp
  simp -implicitDefEqProofs -dsimp (maxSteps := 10000000) only [af5_l0, ↓goes_loop, ↓goes_seq, ↓goes_reg, ↓goes_dreg, ↓goes_cond, ↓goes_block, ↓goes_skip, ↓goes_exit, ↓goes_ret, after_some, br_true, br_false, ↓then_normal, ↓then_exit, ↓then_ret, ↓blk_normal, ↓blk_exit, ↓blk_ret, ↓blk_other, ops_nil, ops_some, ops_none, oper_none, oper_some, gd_tt, gd_ff, gd_tf, gd_ft, gd_undef, ↓any_op, ↓any_call, ↓any_callV, ↓any_invoke, xo_t, xo_c, args_nil, args_cons, bin_add, bin_sub, bin_mul, bin_quo, bin_rem, bin_and, bin_or, bin_xor, bin_andNot, bin_eql, bin_neq, bin_lss, bin_leq, bin_gtr, bin_geq, bin_shl, bin_shr, bin_bools, bin_strs, bin_ptrs, bin_slices, bin_aggs, ↓Option.bind_some, ↓Option.map_some, ↓cond_true, ↓cond_false, evC, evOp, XO.lit, setArgs, Tr.get_set, Option.bind_some, Option.map_some, cond_true, cond_false, maxI, maxFrom, minI, minFrom, aConv, aBinE, aEq, eqScal, aUn, evRes, fin, oneOf, if_true, if_false, callee, reduceCtorEq, Nat.reduceEqDiff, and_self, decide_true, decide_false, beq_true, beq_false, Bool.not_true, Bool.not_false, List.getElem?_cons_zero, List.getElem?_cons_succ, beq_self_eq_true, gt_iff_lt, ble_dec, beq_dec, List.head?_cons, AV.undef, eq_self, ne_eq, not_true_eq_false, not_false_eq_true, Int.reduceLT, Int.reduceLE, Int.reduceToNat, Int.reduceEq, Int.reduceNeg, Nat.reduceAdd, Nat.reduceLT, Nat.reduceLeDiff, Nat.reduceMul, Nat.reduceSub, AV.cells, AV.tup, Bool.true_and, true_and, and_true, List.drop_nil, List.append_nil, rd_put, rd_alloc, rdO, St.get_put, St.get_alloc, St.next_put, St.next_alloc, St.wr, Bool.and_self, Bool.and_true, List.length_cons, List.length_nil, List.take_succ_cons, List.take_zero, List.drop_succ_cons, List.drop_zero, List.cons_append, List.nil_append, Nat.zero_add, Nat.add_zero, Nat.reduceMul, aFill, evParts, rep, List.replicate_succ, List.replicate_zero, List.flatten_cons, List.flatten_nil, List.append_nil, newSl, newVar, Option.isNone_some, t4, t5, c1, hA, r9, hbb, hxx, wj]
  have w : IntKind.i64.wrap (cut + 1) = cut + 1 := w64_id (by omega) (by omega)
  refine ⟨m, ⟨?_, j + 1, putC (List.replicate (min j 16) [1]) (newB 5 50000) [1] cut, ?_, by omega, ?_, ?_⟩, Nat.lt_succ_self m⟩
  · simp only [Tr.get_set, Nat.reduceEqDiff, if_false, if_true, t4]
  · simp only [Tr.get_set, Nat.reduceEqDiff, if_false, if_true]
  · have : putR (List.replicate (min j 16) [1]) (newB 5 50000) [1] = List.replicate (min (j + 1) 16) [1] := by
      unfold putR
      rw [hp]
      split
      · rename_i h
        rw [h, decide_eq_true_eq] at hbb
        rw [show min (j + 1) 16 = min j 16 + 1 by omega, List.replicate_succ']
      · rename_i h
        have : ¬ (j : Int) < 16 := fun h2 => h (hbb ▸ decide_eq_true h2)
        rw [show min (j + 1) 16 = min j 16 by omega]
    rw [← this]
    exact G1
  · unfold putC
    rw [hp, w]
    split
    · rename_i h
      rw [h, decide_eq_true_eq] at hbb
      omega
    · rename_i h
      have : ¬ (j : Int) < 16 := fun h2 => h (hbb ▸ decide_eq_true h2)
      omega
theorem go16 : (goL (List.replicate 16 [1]) (newB 5 50000)).1.length = 16 := by decide +kernel
set_option maxHeartbeats 4000000 in
theorem ev5 (k : Nat) (S : St) : ∃ S', evF Y AP (k + 3000) 5 [] S = some (.bool true, S') := by
  suffices hh : ∃ v S', evF Y AP (k + 3000) 5 [] S = some (v, S') ∧ v = .bool true by
    obtain ⟨v, S', h1, rfl⟩ := hh; exact ⟨S', h1⟩
  refine evF_goes (af := af5) (k := k + 2999) rfl rfl rfl ?_
  simp -implicitDefEqProofs -dsimp (maxSteps := 10000000) only [af5, ↓goes_loop, ↓goes_seq, ↓goes_reg, ↓goes_dreg, ↓goes_cond, ↓goes_block, ↓goes_skip, ↓goes_exit, ↓goes_ret, after_some, br_true, br_false, ↓then_normal, ↓then_exit, ↓then_ret, ↓blk_normal, ↓blk_exit, ↓blk_ret, ↓blk_other, ops_nil, ops_some, ops_none, oper_none, oper_some, gd_tt, gd_ff, gd_tf, gd_ft, gd_undef, ↓any_op, ↓any_call, ↓any_callV, ↓any_invoke, xo_t, xo_c, args_nil, args_cons, bin_add, bin_sub, bin_mul, bin_quo, bin_rem, bin_and, bin_or, bin_xor, bin_andNot, bin_eql, bin_neq, bin_lss, bin_leq, bin_gtr, bin_geq, bin_shl, bin_shr, bin_bools, bin_strs, bin_ptrs, bin_slices, bin_aggs, ↓Option.bind_some, ↓Option.map_some, ↓cond_true, ↓cond_false, evC, evOp, XO.lit, setArgs, Tr.tabG, Tr.tabS, Tr.tabL, Tr.get_lf, Option.bind_some, Option.map_some, cond_true, cond_false, maxI, maxFrom, minI, minFrom, aConv, aBinE, aEq, eqScal, aUn, evRes, fin, oneOf, if_true, if_false, callee, reduceCtorEq, Nat.reduceEqDiff, and_self, decide_true, decide_false, beq_true, beq_false, Bool.not_true, Bool.not_false, List.getElem?_cons_zero, List.getElem?_cons_succ, beq_self_eq_true, gt_iff_lt, ble_dec, beq_dec, List.head?_cons, AV.undef, eq_self, ne_eq, not_true_eq_false, not_false_eq_true, Int.reduceLT, Int.reduceLE, Int.reduceToNat, Int.reduceEq, Int.reduceNeg, Nat.reduceAdd, Nat.reduceLT, Nat.reduceLeDiff, Nat.reduceMul, Nat.reduceSub]
  refine .while (N2 S) id 40 ⟨.refl _, 0, rfl, by omega⟩ (by show 40 < k + 2999; omega) fun m2 T2 S2 h2 => (roundN2 k m2 T2 S2 h2).mono ?_
  intro r T' S1 hq
  cases r with
  | normal => exact hq
  | ret => exact absurd hq.1 (by simp)
  | exit i =>
    cases hq.1
    obtain ⟨S2, r1, e1, n1', Q1⟩ := T7 (S := S1) (k + 2991) 5 50000
    have r1 : evF Y AP (k + 2999) 7 [.int .i64 5, .int .i64 50000] S1 = _ := r1
    have G : Sg S1 (S1.next + 1) S1.next [] (newB 5 50000) 0 S2 := ⟨e1, _, Q1, fun j hj => hj.1⟩
    simp -implicitDefEqProofs -dsimp (maxSteps := 10000000) only [↓goes_loop, ↓goes_seq, ↓goes_reg, ↓goes_dreg, ↓goes_cond, ↓goes_block, ↓goes_skip, ↓goes_exit, ↓goes_ret, after_some, br_true, br_false, ↓then_normal, ↓then_exit, ↓then_ret, ↓blk_normal, ↓blk_exit, ↓blk_ret, ↓blk_other, ops_nil, ops_some, ops_none, oper_none, oper_some, gd_tt, gd_ff, gd_tf, gd_ft, gd_undef, ↓any_op, ↓any_call, ↓any_callV, ↓any_invoke, xo_t, xo_c, args_nil, args_cons, bin_add, bin_sub, bin_mul, bin_quo, bin_rem, bin_and, bin_or, bin_xor, bin_andNot, bin_eql, bin_neq, bin_lss, bin_leq, bin_gtr, bin_geq, bin_shl, bin_shr, bin_bools, bin_strs, bin_ptrs, bin_slices, bin_aggs, ↓Option.bind_some, ↓Option.map_some, ↓cond_true, ↓cond_false, evC, evOp, XO.lit, setArgs, Tr.get_set, Option.bind_some, Option.map_some, cond_true, cond_false, maxI, maxFrom, minI, minFrom, aConv, aBinE, aEq, eqScal, aUn, evRes, fin, oneOf, if_true, if_false, callee, reduceCtorEq, Nat.reduceEqDiff, and_self, decide_true, decide_false, beq_true, beq_false, Bool.not_true, Bool.not_false, List.getElem?_cons_zero, List.getElem?_cons_succ, beq_self_eq_true, gt_iff_lt, ble_dec, beq_dec, List.head?_cons, AV.undef, eq_self, ne_eq, not_true_eq_false, not_false_eq_true, Int.reduceLT, Int.reduceLE, Int.reduceToNat, Int.reduceEq, Int.reduceNeg, Nat.reduceAdd, Nat.reduceLT, Nat.reduceLeDiff, Nat.reduceMul, Nat.reduceSub, r1]
    refine .while (N0 (S1.next + 1) S1.next S1) id 19 ⟨?_, 0, 0, ?_, by omega, G, by omega⟩ (by show 19 < k + 2999; omega) fun m2 T2 S2 h2 => (roundN0 (k + 1000) m2 T2 S2 h2).mono ?_
    · simp only [Tr.get_set, Nat.reduceEqDiff, if_false, if_true]
    · simp only [Tr.get_set, Nat.reduceEqDiff, if_false, if_true]; rfl
    · intro r T' S3 hq
      cases r with
      | normal => exact hq
      | ret => exact absurd hq.1 (by simp)
      | exit i =>
        obtain ⟨hi, t4, j, cut, t5, hj, G, hc⟩ := hq
        cases hi
        obtain rfl : j = 19 := by omega
        have hc3 : cut = 3 := by omega
        subst hc3
        have G : Sg S1 (S1.next + 1) S1.next (List.replicate 16 [1]) (newB 5 50000) 3 S3 := G
        obtain ⟨_, r14⟩ := G.asks (k + 1000)
        obtain ⟨p, c, S4, r11, _⟩ := G.go (k + 1000)
        rw [go16] at r11
        have r14 : evF Y AP (k + 2999) 14 [pt (S1.next + 1)] S3 = _ := r14
        have r11 : evF Y AP (k + 2999) 11 [pt (S1.next + 1)] S3 = _ := r11
        have h16 : (16 : Nat) ≤ 9223372036854775807 := by decide
        have h16' : (((16 : Nat) : Int) = 16) = True := eq_true rfl
        simp -implicitDefEqProofs -dsimp (maxSteps := 10000000) only [↓goes_loop, ↓goes_seq, ↓goes_reg, ↓goes_dreg, ↓goes_cond, ↓goes_block, ↓goes_skip, ↓goes_exit, ↓goes_ret, after_some, br_true, br_false, ↓then_normal, ↓then_exit, ↓then_ret, ↓blk_normal, ↓blk_exit, ↓blk_ret, ↓blk_other, ops_nil, ops_some, ops_none, oper_none, oper_some, gd_tt, gd_ff, gd_tf, gd_ft, gd_undef, ↓any_op, ↓any_call, ↓any_callV, ↓any_invoke, xo_t, xo_c, args_nil, args_cons, bin_add, bin_sub, bin_mul, bin_quo, bin_rem, bin_and, bin_or, bin_xor, bin_andNot, bin_eql, bin_neq, bin_lss, bin_leq, bin_gtr, bin_geq, bin_shl, bin_shr, bin_bools, bin_strs, bin_ptrs, bin_slices, bin_aggs, ↓Option.bind_some, ↓Option.map_some, ↓cond_true, ↓cond_false, evC, evOp, XO.lit, setArgs, Tr.get_set, Option.bind_some, Option.map_some, cond_true, cond_false, maxI, maxFrom, minI, minFrom, aConv, aBinE, aEq, eqScal, aUn, evRes, fin, oneOf, if_true, if_false, callee, reduceCtorEq, Nat.reduceEqDiff, and_self, decide_true, decide_false, beq_true, beq_false, Bool.not_true, Bool.not_false, List.getElem?_cons_zero, List.getElem?_cons_succ, beq_self_eq_true, gt_iff_lt, ble_dec, beq_dec, List.head?_cons, AV.undef, eq_self, ne_eq, not_true_eq_false, not_false_eq_true, Int.reduceLT, Int.reduceLE, Int.reduceToNat, Int.reduceEq, Int.reduceNeg, Nat.reduceAdd, Nat.reduceLT, Nat.reduceLeDiff, Nat.reduceMul, Nat.reduceSub, AV.cells, AV.tup, Bool.true_and, true_and, and_true, List.drop_nil, List.append_nil, rd_put, rd_alloc, rdO, St.get_put, St.get_alloc, St.next_put, St.next_alloc, St.wr, Bool.and_self, Bool.and_true, List.length_cons, List.length_nil, List.take_succ_cons, List.take_zero, List.drop_succ_cons, List.drop_zero, List.cons_append, List.nil_append, Nat.zero_add, Nat.add_zero, Nat.reduceMul, Option.isNone_some, t4, r14, r11, h16, h16', y13]
        exact ⟨_, _, rfl, rfl⟩
theorem law5 : ∃ S', evF Y AP (0 + 3000) 5 [] S0 = some (.bool true, S') := ev5 0 S0
end Go.Proofs.YtkjmhhoioanolaaA
