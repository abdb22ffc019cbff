/- Chapter 16: the closed sentence. -/
import Derived.Test.YtinnclcheekhpaaMtE
set_option linter.unusedVariables false
set_option linter.unusedSimpArgs false
set_option maxRecDepth 10000
namespace Go.Proofs.YtinnclcheekhpaaA
open Go.RowKit
attribute [local congr] bind_congr1 map_congr1 cond_congr1 withX_congr after_congr br_congr gd_congr

theorem T8' (k : Nat) (S : St) : evF Y AP (k + 1) 8 [] S = some (pt S.next, S.alloc (mt zf 0 0)) := by
  rw [evF_body (af := af8) rfl rfl rfl]
  rfl
set_option maxHeartbeats 8000000 in
theorem play6 (k : Nat) {p : Option (Nat × Nat × Nat)} {len e : Nat} {S : St} (h : Sl S p len [.bool, .int .i64, .int .i64]) (hez : p = none ∨ e = 3) :
    ∃ S', evF Y AP (k + 300) 6 [.slice p len e none] S = some (.bool true, S') ∧ Ext S S' := by
  suffices hs : ∃ v S', evF Y AP (k + 300) 6 [.slice p len e none] S = some (v, S') ∧ (v = .bool true ∧ Ext S S') by
    obtain ⟨v, S', h1, rfl, h2⟩ := hs; exact ⟨S', h1, h2⟩
  refine evF_goes (af := af6) (k := k + 299) rfl rfl rfl ?_
  simp -implicitDefEqProofs -dsimp (maxSteps := 10000000) only [af6, ↓goes_loop, ↓goes_seq, ↓goes_reg, ↓goes_dreg, ↓goes_cond, ↓goes_block, ↓goes_skip, ↓goes_exit, ↓goes_ret, after_some, br_true, br_false, ↓then_normal, ↓then_exit, ↓then_ret, ↓blk_normal, ↓blk_exit, ↓blk_ret, ↓blk_other, ops_nil, ops_some, ops_none, oper_none, oper_some, gd_tt, gd_ff, gd_tf, gd_ft, gd_undef, ↓any_op, ↓any_call, ↓any_callV, ↓any_invoke, xo_t, xo_c, args_nil, args_cons, bin_add, bin_sub, bin_mul, bin_quo, bin_rem, bin_and, bin_or, bin_xor, bin_andNot, bin_eql, bin_neq, bin_lss, bin_leq, bin_gtr, bin_geq, bin_shl, bin_shr, bin_bools, bin_strs, bin_ptrs, bin_slices, bin_aggs, ↓Option.bind_some, ↓Option.map_some, ↓cond_true, ↓cond_false, evC, evOp, XO.lit, setArgs, Tr.tabG, Tr.tabS, Tr.tabL, Tr.get_lf, Option.bind_some, Option.map_some, cond_true, cond_false, maxI, maxFrom, minI, minFrom, aConv, aBinE, aEq, eqScal, aUn, evRes, fin, oneOf, if_true, if_false, callee, reduceCtorEq, Nat.reduceEqDiff, and_self, decide_true, decide_false, beq_true, beq_false, Bool.not_true, Bool.not_false, List.getElem?_cons_zero, List.getElem?_cons_succ, beq_self_eq_true, gt_iff_lt, ble_dec, beq_dec, List.head?_cons, AV.undef, eq_self, ne_eq, not_true_eq_false, not_false_eq_true, Int.reduceLT, Int.reduceLE, Int.reduceToNat, Int.reduceEq, Int.reduceNeg, Nat.reduceAdd, Nat.reduceLT, Nat.reduceLeDiff, Nat.reduceMul, Nat.reduceSub, AV.cells, AV.tup, Bool.true_and, true_and, and_true, List.drop_nil, List.append_nil, rd_put, rd_alloc, rdO, St.get_put, St.get_alloc, St.next_put, St.next_alloc, St.wr, Bool.and_self, Bool.and_true, List.length_cons, List.length_nil, List.take_succ_cons, List.take_zero, List.drop_succ_cons, List.drop_zero, List.cons_append, List.nil_append, Nat.zero_add, Nat.add_zero, Nat.reduceMul, aFill, evParts, rep, List.replicate_succ, List.replicate_zero, List.flatten_cons, List.flatten_nil, List.append_nil, newSl, newVar, T8']
  refine .while (I6 p len e S) id 150 ?_ (by show 150 < k + 299; omega) fun n2 T2 S2 h2 => (round6 k h hez n2 T2 S2 h2).mono ?_
  · refine ⟨rfl, rfl, rfl, (Ext.alloc _ _).then_alloc _, ?_, 0, zf, 0, 0, rfl, ?_, ?_, zf_gd, by decide, by decide, rfl⟩
    · simp only [St.next_alloc]; omega
    · rw [St.get_alloc, if_neg (by rw [St.next_alloc]; omega), St.get_alloc, if_pos rfl]
    · rw [St.get_alloc, if_pos (by rw [St.next_alloc])]
      rfl
  · intro q T' S' hr'
    cases q with
    | normal => exact hr'
    | ret => exact absurd hr'.1 (by intro h; cases h)
    | exit id =>
      obtain ⟨hid, n', t0, t3, t4, he, _⟩ := hr'
      cases hid
      simp -implicitDefEqProofs -dsimp (maxSteps := 10000000) only [↓goes_loop, ↓goes_seq, ↓goes_reg, ↓goes_dreg, ↓goes_cond, ↓goes_block, ↓goes_skip, ↓goes_exit, ↓goes_ret, after_some, br_true, br_false, ↓then_normal, ↓then_exit, ↓then_ret, ↓blk_normal, ↓blk_exit, ↓blk_ret, ↓blk_other, ops_nil, ops_some, ops_none, oper_none, oper_some, gd_tt, gd_ff, gd_tf, gd_ft, gd_undef, ↓any_op, ↓any_call, ↓any_callV, ↓any_invoke, xo_t, xo_c, args_nil, args_cons, bin_add, bin_sub, bin_mul, bin_quo, bin_rem, bin_and, bin_or, bin_xor, bin_andNot, bin_eql, bin_neq, bin_lss, bin_leq, bin_gtr, bin_geq, bin_shl, bin_shr, bin_bools, bin_strs, bin_ptrs, bin_slices, bin_aggs, ↓Option.bind_some, ↓Option.map_some, ↓cond_true, ↓cond_false, evC, evOp, XO.lit, setArgs, Tr.get_set, Option.bind_some, Option.map_some, cond_true, cond_false, maxI, maxFrom, minI, minFrom, aConv, aBinE, aEq, eqScal, aUn, evRes, fin, oneOf, if_true, if_false, callee, reduceCtorEq, Nat.reduceEqDiff, and_self, decide_true, decide_false, beq_true, beq_false, Bool.not_true, Bool.not_false, List.getElem?_cons_zero, List.getElem?_cons_succ, beq_self_eq_true, gt_iff_lt, ble_dec, beq_dec, List.head?_cons, AV.undef, eq_self, ne_eq, not_true_eq_false, not_false_eq_true, Int.reduceLT, Int.reduceLE, Int.reduceToNat, Int.reduceEq, Int.reduceNeg, Nat.reduceAdd, Nat.reduceLT, Nat.reduceLeDiff, Nat.reduceMul, Nat.reduceSub, AV.cells, AV.tup, Bool.true_and, true_and, and_true, List.drop_nil, List.append_nil, rd_put, rd_alloc, rdO, St.get_put, St.get_alloc, St.next_put, St.next_alloc, St.wr, Bool.and_self, Bool.and_true, List.length_cons, List.length_nil, List.take_succ_cons, List.take_zero, List.drop_succ_cons, List.drop_zero, List.cons_append, List.nil_append, Nat.zero_add, Nat.add_zero, Nat.reduceMul, t3, aBinE, aEq, Option.isNone_some]
      exact ⟨_, _, rfl, rfl, he⟩
structure Q0 (kk : Int) (n : Nat) (T : Tm) (S : St) : Prop where
  t1 : T.get 1 = some (.int .i64 kk)
  more : ∃ (i now : Int) (q : Option (Nat × Nat × Nat)) (e : Nat) (c : List AV), T.get 4 = some (.int .i64 i) ∧ T.get 3 = some (.int .i64 now) ∧ T.get 2 = some (.slice q i.toNat e none) ∧ Vec S q i.toNat 3 e c ∧
    (∀ j, j < i.toNat → Scs [.bool, .int .i64, .int .i64] ((c.drop (j * 3)).take 3)) ∧ 0 ≤ i ∧ i ≤ 100 ∧ (n : Int) = 100 - i ∧ -11000 * i ≤ now ∧ now ≤ 960000 * i
structure Q1 (n : Nat) (T : Tm) (S : St) : Prop where
  more : ∃ k : Int, T.get 1 = some (.int .i64 k) ∧ 0 ≤ k ∧ k ≤ 40 ∧ (n : Int) = 40 - k
set_option maxHeartbeats 8000000 in
theorem roundQ0 (k : Nat) (kk : Int) (k0 : 0 ≤ kk) (k1 : kk < 40) (n : Nat) (T : Tm) (S : St) (h : Q0 kk n T S) :
    Goes (evF Y AP (k + 399)) (k + 399) af3_l0 T S (Then (fun T' S' => ∃ n', Q0 kk n' T' S' ∧ id n' < id n) fun r T' S' => r = .exit 2 ∧ ∃ n', Q0 kk n' T' S') := by
  obtain ⟨t1, i, now, q, e, c, t4, t3, t2, hv, hsc, i0, i1, hn, n0, n1⟩ := h
  by_cases c1 : i < 100
  · have hi2 : 0 ≤ i * i := Int.mul_nonneg i0 i0
    have hi3 : i * i ≤ 100 * i := Int.mul_le_mul_of_nonneg_right (by omega) i0
    have hk2 : 0 ≤ i * kk := Int.mul_nonneg i0 k0
    have hk3 : i * kk ≤ 100 * kk := Int.mul_le_mul_of_nonneg_right (by omega) k0
    have w1 : IntKind.i64.wrap (i * i) = i * i := w64_id (by omega) (by omega)
    have w2 : IntKind.i64.wrap (i * i + kk) = i * i + kk := w64_id (by omega) (by omega)
    have d1 : Int.tmod (i * i + kk) 7 = (i * i + kk) % 7 := Int.tmod_eq_emod_of_nonneg (by omega)
    obtain ⟨x, hx⟩ : ∃ x, (i * i + kk) % 7 = x := ⟨_, rfl⟩
    have x0 : 0 ≤ x ∧ x ≤ 6 := by omega
    have w3 : IntKind.i64.wrap (kk * 4000) = kk * 4000 := w64_id (by omega) (by omega)
    have hxk0 : 0 ≤ x * (kk * 4000) := Int.mul_nonneg x0.1 (by omega)
    have hxk1 : x * (kk * 4000) ≤ 6 * (kk * 4000) := Int.mul_le_mul_of_nonneg_right x0.2 (by omega)
    obtain ⟨y, hy⟩ : ∃ y, x * (kk * 4000) = y := ⟨_, rfl⟩
    rw [hy] at hxk0 hxk1
    have w4 : IntKind.i64.wrap y = y := w64_id (by omega) (by omega)
    have w5 : IntKind.i64.wrap (now + y) = now + y := w64_id (by omega) (by omega)
    have d2 : Int.tmod i 11 = i % 11 := Int.tmod_eq_emod_of_nonneg i0
    have w6 : IntKind.i64.wrap (i % 11 * 1000) = i % 11 * 1000 := w64_id (by omega) (by omega)
    obtain ⟨z, hz⟩ : ∃ z, now + y - i % 11 * 1000 = z := ⟨_, rfl⟩
    have w7 : IntKind.i64.wrap z = z := w64_id (by omega) (by omega)
    have d3 : Int.tmod i 3 = i % 3 := Int.tmod_eq_emod_of_nonneg i0
    have w8 : IntKind.i64.wrap (i * kk) = i * kk := w64_id (by omega) (by omega)
    have d4 : Int.tmod (i * kk) 1500 = (i * kk) % 1500 := Int.tmod_eq_emod_of_nonneg hk2
    obtain ⟨u, hu⟩ : ∃ u, (i * kk) % 1500 - 3 = u := ⟨_, rfl⟩
    have w9 : IntKind.i64.wrap u = u := w64_id (by omega) (by omega)
    obtain ⟨b, hb⟩ : ∃ b, decide (0 < i % 3) = b := ⟨_, rfl⟩
    have w10 : IntKind.i64.wrap (i + 1) = i + 1 := w64_id (by omega) (by omega)
    have h7 : ¬ ((7 : Int) = 0) := by decide
    have h11 : ¬ ((11 : Int) = 0) := by decide
    have h3 : ¬ ((3 : Int) = 0) := by decide
    have h15 : ¬ ((1500 : Int) = 0) := by decide
    have hsx : Scs [.bool, .int .i64, .int .i64] [.bool b, .int .i64 u, .int .i64 z] := ⟨trivial, ⟨rfl, mk_i64 (by omega) (by omega)⟩, ⟨rfl, mk_i64 (by omega) (by omega)⟩, trivial⟩
    have hve : Vec (S.alloc (.cells [.bool b, .int .i64 u, .int .i64 z] 0 0 true)) q i.toNat 3 e c := hv.ext (.alloc _ _)
    obtain ⟨q', S2, hap, hv2, hg2, hq2⟩ := hve.append (bytes := 24) (xs := [.bool b, .int .i64 u, .int .i64 z]) (n := 1) rfl (by decide) (by omega)
    have e1 : (i + 1).toNat = i.toNat + 1 := by omega
    simp -implicitDefEqProofs -dsimp (maxSteps := 10000000) only [af3_l0, ↓goes_loop, ↓goes_seq, ↓goes_reg, ↓goes_dreg, ↓goes_cond, ↓goes_block, ↓goes_skip, ↓goes_exit, ↓goes_ret, after_some, br_true, br_false, ↓then_normal, ↓then_exit, ↓then_ret, ↓blk_normal, ↓blk_exit, ↓blk_ret, ↓blk_other, ops_nil, ops_some, ops_none, oper_none, oper_some, gd_tt, gd_ff, gd_tf, gd_ft, gd_undef, ↓any_op, ↓any_call, ↓any_callV, ↓any_invoke, xo_t, xo_c, args_nil, args_cons, bin_add, bin_sub, bin_mul, bin_quo, bin_rem, bin_and, bin_or, bin_xor, bin_andNot, bin_eql, bin_neq, bin_lss, bin_leq, bin_gtr, bin_geq, bin_shl, bin_shr, bin_bools, bin_strs, bin_ptrs, bin_slices, bin_aggs, ↓Option.bind_some, ↓Option.map_some, ↓cond_true, ↓cond_false, evC, evOp, XO.lit, setArgs, Tr.get_set, Option.bind_some, Option.map_some, cond_true, cond_false, maxI, maxFrom, minI, minFrom, aConv, aBinE, aEq, eqScal, aUn, evRes, fin, oneOf, if_true, if_false, callee, reduceCtorEq, Nat.reduceEqDiff, and_self, decide_true, decide_false, beq_true, beq_false, Bool.not_true, Bool.not_false, List.getElem?_cons_zero, List.getElem?_cons_succ, beq_self_eq_true, gt_iff_lt, ble_dec, beq_dec, List.head?_cons, AV.undef, eq_self, ne_eq, not_true_eq_false, not_false_eq_true, Int.reduceLT, Int.reduceLE, Int.reduceToNat, Int.reduceEq, Int.reduceNeg, Nat.reduceAdd, Nat.reduceLT, Nat.reduceLeDiff, Nat.reduceMul, Nat.reduceSub, AV.cells, AV.tup, Bool.true_and, true_and, and_true, List.drop_nil, List.append_nil, rd_put, rd_alloc, rdO, St.get_put, St.get_alloc, St.next_put, St.next_alloc, St.wr, Bool.and_self, Bool.and_true, List.length_cons, List.length_nil, List.take_succ_cons, List.take_zero, List.drop_succ_cons, List.drop_zero, List.cons_append, List.nil_append, Nat.zero_add, Nat.add_zero, Nat.reduceMul, aFill, evParts, rep, List.replicate_succ, List.replicate_zero, List.flatten_cons, List.flatten_nil, List.append_nil, newSl, newVar, t1, t2, t3, t4, c1, w1, w2, d1, hx, w3, hy, w4, w5, d2, w6, hz, w7, d3, hb, w8, d4, hu, w9, w10, h7, h11, h3, h15, hap]
    refine ⟨n - 1, ⟨?_, i + 1, z, q', 3, _, ?_, ?_, ?_, by rw [e1]; exact hv2, by rw [e1]; exact Scs_snoc (ks := [.bool, .int .i64, .int .i64]) hv.sz hsc hsx, by omega, by omega, by omega, by omega, by omega⟩, by simp only [id]; omega⟩ <;>
      simp only [Tr.get_set, Nat.reduceEqDiff, if_false, if_true, t1, e1]
  · simp -implicitDefEqProofs -dsimp (maxSteps := 10000000) only [af3_l0, ↓goes_loop, ↓goes_seq, ↓goes_reg, ↓goes_dreg, ↓goes_cond, ↓goes_block, ↓goes_skip, ↓goes_exit, ↓goes_ret, after_some, br_true, br_false, ↓then_normal, ↓then_exit, ↓then_ret, ↓blk_normal, ↓blk_exit, ↓blk_ret, ↓blk_other, ops_nil, ops_some, ops_none, oper_none, oper_some, gd_tt, gd_ff, gd_tf, gd_ft, gd_undef, ↓any_op, ↓any_call, ↓any_callV, ↓any_invoke, xo_t, xo_c, args_nil, args_cons, bin_add, bin_sub, bin_mul, bin_quo, bin_rem, bin_and, bin_or, bin_xor, bin_andNot, bin_eql, bin_neq, bin_lss, bin_leq, bin_gtr, bin_geq, bin_shl, bin_shr, bin_bools, bin_strs, bin_ptrs, bin_slices, bin_aggs, ↓Option.bind_some, ↓Option.map_some, ↓cond_true, ↓cond_false, evC, evOp, XO.lit, setArgs, Tr.get_set, Option.bind_some, Option.map_some, cond_true, cond_false, maxI, maxFrom, minI, minFrom, aConv, aBinE, aEq, eqScal, aUn, evRes, fin, oneOf, if_true, if_false, callee, reduceCtorEq, Nat.reduceEqDiff, and_self, decide_true, decide_false, beq_true, beq_false, Bool.not_true, Bool.not_false, List.getElem?_cons_zero, List.getElem?_cons_succ, beq_self_eq_true, gt_iff_lt, ble_dec, beq_dec, List.head?_cons, AV.undef, eq_self, ne_eq, not_true_eq_false, not_false_eq_true, Int.reduceLT, Int.reduceLE, Int.reduceToNat, Int.reduceEq, Int.reduceNeg, Nat.reduceAdd, Nat.reduceLT, Nat.reduceLeDiff, Nat.reduceMul, Nat.reduceSub, AV.cells, AV.tup, Bool.true_and, true_and, and_true, List.drop_nil, List.append_nil, rd_put, rd_alloc, rdO, St.get_put, St.get_alloc, St.next_put, St.next_alloc, St.wr, Bool.and_self, Bool.and_true, List.length_cons, List.length_nil, List.take_succ_cons, List.take_zero, List.drop_succ_cons, List.drop_zero, List.cons_append, List.nil_append, Nat.zero_add, Nat.add_zero, Nat.reduceMul, t4, c1]
    refine ⟨n, ?_, i, now, q, e, c, ?_, ?_, ?_, hv, hsc, i0, i1, hn, n0, n1⟩ <;>
      simp only [Tr.get_set, Nat.reduceEqDiff, if_false, if_true, t1, t2, t3, t4]
set_option maxHeartbeats 8000000 in
theorem roundQ1 (k : Nat) (n : Nat) (T : Tm) (S : St) (h : Q1 n T S) :
    Goes (evF Y AP (k + 399)) (k + 399) af3_l1 T S (Then (fun T' S' => ∃ n', Q1 n' T' S' ∧ id n' < id n) fun r T' S' => r = .exit 0) := by
  obtain ⟨kk, t1, k0, k1, hn⟩ := h
  by_cases c1 : kk < 40
  · have w1 : IntKind.i64.wrap (kk + 1) = kk + 1 := w64_id (by omega) (by omega)
    simp -implicitDefEqProofs -dsimp (maxSteps := 10000000) only [af3_l1, ↓goes_loop, ↓goes_seq, ↓goes_reg, ↓goes_dreg, ↓goes_cond, ↓goes_block, ↓goes_skip, ↓goes_exit, ↓goes_ret, after_some, br_true, br_false, ↓then_normal, ↓then_exit, ↓then_ret, ↓blk_normal, ↓blk_exit, ↓blk_ret, ↓blk_other, ops_nil, ops_some, ops_none, oper_none, oper_some, gd_tt, gd_ff, gd_tf, gd_ft, gd_undef, ↓any_op, ↓any_call, ↓any_callV, ↓any_invoke, xo_t, xo_c, args_nil, args_cons, bin_add, bin_sub, bin_mul, bin_quo, bin_rem, bin_and, bin_or, bin_xor, bin_andNot, bin_eql, bin_neq, bin_lss, bin_leq, bin_gtr, bin_geq, bin_shl, bin_shr, bin_bools, bin_strs, bin_ptrs, bin_slices, bin_aggs, ↓Option.bind_some, ↓Option.map_some, ↓cond_true, ↓cond_false, evC, evOp, XO.lit, setArgs, Tr.get_set, Option.bind_some, Option.map_some, cond_true, cond_false, maxI, maxFrom, minI, minFrom, aConv, aBinE, aEq, eqScal, aUn, evRes, fin, oneOf, if_true, if_false, callee, reduceCtorEq, Nat.reduceEqDiff, and_self, decide_true, decide_false, beq_true, beq_false, Bool.not_true, Bool.not_false, List.getElem?_cons_zero, List.getElem?_cons_succ, beq_self_eq_true, gt_iff_lt, ble_dec, beq_dec, List.head?_cons, AV.undef, eq_self, ne_eq, not_true_eq_false, not_false_eq_true, Int.reduceLT, Int.reduceLE, Int.reduceToNat, Int.reduceEq, Int.reduceNeg, Nat.reduceAdd, Nat.reduceLT, Nat.reduceLeDiff, Nat.reduceMul, Nat.reduceSub, AV.cells, AV.tup, Bool.true_and, true_and, and_true, List.drop_nil, List.append_nil, rd_put, rd_alloc, rdO, St.get_put, St.get_alloc, St.next_put, St.next_alloc, St.wr, Bool.and_self, Bool.and_true, List.length_cons, List.length_nil, List.take_succ_cons, List.take_zero, List.drop_succ_cons, List.drop_zero, List.cons_append, List.nil_append, Nat.zero_add, Nat.add_zero, Nat.reduceMul, t1, c1]
    refine .while (Q0 kk) id 100 ?_ (by show 100 < k + 399; omega) fun n2 T2 S2 h2 => (roundQ0 k kk k0 c1 n2 T2 S2 h2).mono ?_
    · refine ⟨?_, 0, 0, none, 0, [], ?_, ?_, ?_, .nil _ _ _, fun j hj => absurd hj (Nat.not_lt_zero _), by decide, by decide, rfl, by decide, by decide⟩
      · simp only [Tr.get_set, Nat.reduceEqDiff, if_false, if_true, t1]
      · simp only [Tr.get_set, Nat.reduceEqDiff, if_false, if_true]
      · simp only [Tr.get_set, Nat.reduceEqDiff, if_false, if_true]
      · simp only [Tr.get_set, Nat.reduceEqDiff, if_false, if_true]; rfl
    · intro r T' S' hr
      cases r with
      | normal => exact hr
      | ret => exact absurd hr.1 (by intro h; cases h)
      | exit id =>
        obtain ⟨hid, n', t1, i, now, q, e, c, t4, t3, t2, hv, hsc, i0, i1, _⟩ := hr
        cases hid
        have hsl : Sl S' q i.toNat [.bool, .int .i64, .int .i64] := hv.sl (ks := [.bool, .int .i64, .int .i64]) (by omega) hsc
        obtain ⟨S3, e3, x3⟩ := play6 (k + 99) hsl hv.ez
        simp -implicitDefEqProofs -dsimp (maxSteps := 10000000) only [↓goes_loop, ↓goes_seq, ↓goes_reg, ↓goes_dreg, ↓goes_cond, ↓goes_block, ↓goes_skip, ↓goes_exit, ↓goes_ret, after_some, br_true, br_false, ↓then_normal, ↓then_exit, ↓then_ret, ↓blk_normal, ↓blk_exit, ↓blk_ret, ↓blk_other, ops_nil, ops_some, ops_none, oper_none, oper_some, gd_tt, gd_ff, gd_tf, gd_ft, gd_undef, ↓any_op, ↓any_call, ↓any_callV, ↓any_invoke, xo_t, xo_c, args_nil, args_cons, bin_add, bin_sub, bin_mul, bin_quo, bin_rem, bin_and, bin_or, bin_xor, bin_andNot, bin_eql, bin_neq, bin_lss, bin_leq, bin_gtr, bin_geq, bin_shl, bin_shr, bin_bools, bin_strs, bin_ptrs, bin_slices, bin_aggs, ↓Option.bind_some, ↓Option.map_some, ↓cond_true, ↓cond_false, evC, evOp, XO.lit, setArgs, Tr.get_set, Option.bind_some, Option.map_some, cond_true, cond_false, maxI, maxFrom, minI, minFrom, aConv, aBinE, aEq, eqScal, aUn, evRes, fin, oneOf, if_true, if_false, callee, reduceCtorEq, Nat.reduceEqDiff, and_self, decide_true, decide_false, beq_true, beq_false, Bool.not_true, Bool.not_false, List.getElem?_cons_zero, List.getElem?_cons_succ, beq_self_eq_true, gt_iff_lt, ble_dec, beq_dec, List.head?_cons, AV.undef, eq_self, ne_eq, not_true_eq_false, not_false_eq_true, Int.reduceLT, Int.reduceLE, Int.reduceToNat, Int.reduceEq, Int.reduceNeg, Nat.reduceAdd, Nat.reduceLT, Nat.reduceLeDiff, Nat.reduceMul, Nat.reduceSub, AV.cells, AV.tup, Bool.true_and, true_and, and_true, List.drop_nil, List.append_nil, rd_put, rd_alloc, rdO, St.get_put, St.get_alloc, St.next_put, St.next_alloc, St.wr, Bool.and_self, Bool.and_true, List.length_cons, List.length_nil, List.take_succ_cons, List.take_zero, List.drop_succ_cons, List.drop_zero, List.cons_append, List.nil_append, Nat.zero_add, Nat.add_zero, Nat.reduceMul, t1, t2, w1, e3]
        refine ⟨n - 1, ⟨kk + 1, ?_, by omega, by omega, by omega⟩, by simp only [_root_.id]; omega⟩
        simp only [Tr.get_set, Nat.reduceEqDiff, if_false, if_true]
  · simp -implicitDefEqProofs -dsimp (maxSteps := 10000000) only [af3_l1, ↓goes_loop, ↓goes_seq, ↓goes_reg, ↓goes_dreg, ↓goes_cond, ↓goes_block, ↓goes_skip, ↓goes_exit, ↓goes_ret, after_some, br_true, br_false, ↓then_normal, ↓then_exit, ↓then_ret, ↓blk_normal, ↓blk_exit, ↓blk_ret, ↓blk_other, ops_nil, ops_some, ops_none, oper_none, oper_some, gd_tt, gd_ff, gd_tf, gd_ft, gd_undef, ↓any_op, ↓any_call, ↓any_callV, ↓any_invoke, xo_t, xo_c, args_nil, args_cons, bin_add, bin_sub, bin_mul, bin_quo, bin_rem, bin_and, bin_or, bin_xor, bin_andNot, bin_eql, bin_neq, bin_lss, bin_leq, bin_gtr, bin_geq, bin_shl, bin_shr, bin_bools, bin_strs, bin_ptrs, bin_slices, bin_aggs, ↓Option.bind_some, ↓Option.map_some, ↓cond_true, ↓cond_false, evC, evOp, XO.lit, setArgs, Tr.get_set, Option.bind_some, Option.map_some, cond_true, cond_false, maxI, maxFrom, minI, minFrom, aConv, aBinE, aEq, eqScal, aUn, evRes, fin, oneOf, if_true, if_false, callee, reduceCtorEq, Nat.reduceEqDiff, and_self, decide_true, decide_false, beq_true, beq_false, Bool.not_true, Bool.not_false, List.getElem?_cons_zero, List.getElem?_cons_succ, beq_self_eq_true, gt_iff_lt, ble_dec, beq_dec, List.head?_cons, AV.undef, eq_self, ne_eq, not_true_eq_false, not_false_eq_true, Int.reduceLT, Int.reduceLE, Int.reduceToNat, Int.reduceEq, Int.reduceNeg, Nat.reduceAdd, Nat.reduceLT, Nat.reduceLeDiff, Nat.reduceMul, Nat.reduceSub, AV.cells, AV.tup, Bool.true_and, true_and, and_true, List.drop_nil, List.append_nil, rd_put, rd_alloc, rdO, St.get_put, St.get_alloc, St.next_put, St.next_alloc, St.wr, Bool.and_self, Bool.and_true, List.length_cons, List.length_nil, List.take_succ_cons, List.take_zero, List.drop_succ_cons, List.drop_zero, List.cons_append, List.nil_append, Nat.zero_add, Nat.add_zero, Nat.reduceMul, t1, c1]
set_option maxHeartbeats 8000000 in
theorem ev3 (k : Nat) (S : St) : ∃ S', evF Y AP (k + 400) 3 [] S = some (.bool true, S') := by
  suffices hs : ∃ v S', evF Y AP (k + 400) 3 [] S = some (v, S') ∧ v = .bool true by
    obtain ⟨v, S', h1, rfl⟩ := hs; exact ⟨S', h1⟩
  refine evF_goes (af := af3) (k := k + 399) rfl rfl rfl ?_
  simp -implicitDefEqProofs -dsimp (maxSteps := 10000000) only [af3, ↓goes_loop, ↓goes_seq, ↓goes_reg, ↓goes_dreg, ↓goes_cond, ↓goes_block, ↓goes_skip, ↓goes_exit, ↓goes_ret, after_some, br_true, br_false, ↓then_normal, ↓then_exit, ↓then_ret, ↓blk_normal, ↓blk_exit, ↓blk_ret, ↓blk_other, ops_nil, ops_some, ops_none, oper_none, oper_some, gd_tt, gd_ff, gd_tf, gd_ft, gd_undef, ↓any_op, ↓any_call, ↓any_callV, ↓any_invoke, xo_t, xo_c, args_nil, args_cons, bin_add, bin_sub, bin_mul, bin_quo, bin_rem, bin_and, bin_or, bin_xor, bin_andNot, bin_eql, bin_neq, bin_lss, bin_leq, bin_gtr, bin_geq, bin_shl, bin_shr, bin_bools, bin_strs, bin_ptrs, bin_slices, bin_aggs, ↓Option.bind_some, ↓Option.map_some, ↓cond_true, ↓cond_false, evC, evOp, XO.lit, setArgs, Tr.tabG, Tr.tabS, Tr.tabL, Tr.get_lf, Option.bind_some, Option.map_some, cond_true, cond_false, maxI, maxFrom, minI, minFrom, aConv, aBinE, aEq, eqScal, aUn, evRes, fin, oneOf, if_true, if_false, callee, reduceCtorEq, Nat.reduceEqDiff, and_self, decide_true, decide_false, beq_true, beq_false, Bool.not_true, Bool.not_false, List.getElem?_cons_zero, List.getElem?_cons_succ, beq_self_eq_true, gt_iff_lt, ble_dec, beq_dec, List.head?_cons, AV.undef, eq_self, ne_eq, not_true_eq_false, not_false_eq_true, Int.reduceLT, Int.reduceLE, Int.reduceToNat, Int.reduceEq, Int.reduceNeg, Nat.reduceAdd, Nat.reduceLT, Nat.reduceLeDiff, Nat.reduceMul, Nat.reduceSub, AV.cells, AV.tup, Bool.true_and, true_and, and_true, List.drop_nil, List.append_nil, rd_put, rd_alloc, rdO, St.get_put, St.get_alloc, St.next_put, St.next_alloc, St.wr, Bool.and_self, Bool.and_true, List.length_cons, List.length_nil, List.take_succ_cons, List.take_zero, List.drop_succ_cons, List.drop_zero, List.cons_append, List.nil_append, Nat.zero_add, Nat.add_zero, Nat.reduceMul, aFill, evParts, rep, List.replicate_succ, List.replicate_zero, List.flatten_cons, List.flatten_nil, List.append_nil, newSl, newVar]
  refine .while Q1 id 40 ⟨0, rfl, by decide, by decide, rfl⟩ (by show 40 < k + 399; omega) fun n2 T2 S2 h2 => (roundQ1 k n2 T2 S2 h2).mono ?_
  intro r T' S' hr
  cases r with
  | normal => exact hr
  | ret => exact absurd hr (by intro h; cases h)
  | exit id =>
    cases hr
    obtain ⟨S3, e3, x3⟩ := play6 (k + 99) (Sl.lit S' [.bool true, .int .i64 4611686018427387904, .int .i64 0, .bool true, .int .i64 4611686018427387904, .int .i64 100000, .bool false, .int .i64 0, .int .i64 500000, .bool true, .int .i64 7, .int .i64 9223372036854775807, .bool false, .int .i64 0, .int .i64 (-9223372036854775808)] 5 [.bool, .int .i64, .int .i64] (by decide) rfl (by rfl)) (e := 3) (.inr rfl)
    simp -implicitDefEqProofs -dsimp (maxSteps := 10000000) only [↓goes_loop, ↓goes_seq, ↓goes_reg, ↓goes_dreg, ↓goes_cond, ↓goes_block, ↓goes_skip, ↓goes_exit, ↓goes_ret, after_some, br_true, br_false, ↓then_normal, ↓then_exit, ↓then_ret, ↓blk_normal, ↓blk_exit, ↓blk_ret, ↓blk_other, ops_nil, ops_some, ops_none, oper_none, oper_some, gd_tt, gd_ff, gd_tf, gd_ft, gd_undef, ↓any_op, ↓any_call, ↓any_callV, ↓any_invoke, xo_t, xo_c, args_nil, args_cons, bin_add, bin_sub, bin_mul, bin_quo, bin_rem, bin_and, bin_or, bin_xor, bin_andNot, bin_eql, bin_neq, bin_lss, bin_leq, bin_gtr, bin_geq, bin_shl, bin_shr, bin_bools, bin_strs, bin_ptrs, bin_slices, bin_aggs, ↓Option.bind_some, ↓Option.map_some, ↓cond_true, ↓cond_false, evC, evOp, XO.lit, setArgs, Tr.get_set, Option.bind_some, Option.map_some, cond_true, cond_false, maxI, maxFrom, minI, minFrom, aConv, aBinE, aEq, eqScal, aUn, evRes, fin, oneOf, if_true, if_false, callee, reduceCtorEq, Nat.reduceEqDiff, and_self, decide_true, decide_false, beq_true, beq_false, Bool.not_true, Bool.not_false, List.getElem?_cons_zero, List.getElem?_cons_succ, beq_self_eq_true, gt_iff_lt, ble_dec, beq_dec, List.head?_cons, AV.undef, eq_self, ne_eq, not_true_eq_false, not_false_eq_true, Int.reduceLT, Int.reduceLE, Int.reduceToNat, Int.reduceEq, Int.reduceNeg, Nat.reduceAdd, Nat.reduceLT, Nat.reduceLeDiff, Nat.reduceMul, Nat.reduceSub, AV.cells, AV.tup, Bool.true_and, true_and, and_true, List.drop_nil, List.append_nil, rd_put, rd_alloc, rdO, St.get_put, St.get_alloc, St.next_put, St.next_alloc, St.wr, Bool.and_self, Bool.and_true, List.length_cons, List.length_nil, List.take_succ_cons, List.take_zero, List.drop_succ_cons, List.drop_zero, List.cons_append, List.nil_append, Nat.zero_add, Nat.add_zero, Nat.reduceMul, aFill, evParts, rep, List.replicate_succ, List.replicate_zero, List.flatten_cons, List.flatten_nil, List.append_nil, newSl, newVar, e3, y7]
    exact ⟨_, _, rfl, rfl⟩
theorem law3 : ∃ S', evF Y AP (0 + 400) 3 [] S0 = some (.bool true, S') := ev3 0 S0
end Go.Proofs.YtinnclcheekhpaaA
