/- Chapter 10: the closed sentence. -/
import Derived.Test.YteeijgjibdhkeaaBkG
set_option linter.unusedVariables false
set_option linter.unusedSimpArgs false
set_option maxRecDepth 10000
namespace Go.Proofs.YteeijgjibdhkeaaA
open Go.RowKit
attribute [local congr] bind_congr1 map_congr1 cond_congr1 withX_congr after_congr br_congr gd_congr

structure J1 (kk : Int) (n : Nat) (T : Tm) (S : St) : Prop where
  t1 : T.get 1 = some (.int .i64 kk)
  more : ∃ (i : Int) (q : Option (Nat × Nat × Nat)) (e : Nat) (c : List AV), T.get 3 = some (.int .i64 i) ∧ T.get 2 = some (.slice q i.toNat e none) ∧ Vec S q i.toNat 2 e c ∧
    (∀ j, j < i.toNat → Scs [.int .i64, .int .i64] ((c.drop (j * 2)).take 2)) ∧ 0 ≤ i ∧ i ≤ 70 ∧ (n : Int) = 70 - i
structure J2 (n : Nat) (T : Tm) (S : St) : Prop where
  more : ∃ k : Int, T.get 1 = some (.int .i64 k) ∧ 0 ≤ k ∧ k ≤ 40 ∧ (n : Int) = 40 - k
structure J0 (p : Option (Nat × Nat × Nat)) (n : Nat) (T : Tm) (S : St) : Prop where
  t55 : T.get 55 = some (.slice p 6 1 none)
  t56 : T.get 56 = some (.int .i64 6)
  sc : Sl S p 6 [.int .i64]
  more : ∃ m : Int, T.get 57 = some (.int .i64 m) ∧ 0 ≤ m ∧ m ≤ 6 ∧ (n : Int) = 6 - m
theorem c6 : ((6 : Nat) : Int) = 6 := rfl
theorem c5 : ((5 : Nat) : Int) = 5 := rfl
set_option maxHeartbeats 8000000 in
theorem roundJ1 (k : Nat) (kk : Int) (k0 : 0 ≤ kk) (k1 : kk < 40) (n : Nat) (T : Tm) (S : St) (h : J1 kk n T S) :
    Goes (evF Y AP (k + 299)) (k + 299) af5_l1 T S (Then (fun T' S' => ∃ n', J1 kk n' T' S' ∧ id n' < id n) fun r T' S' => r = .exit 2 ∧ ∃ n', J1 kk n' T' S') := by
  obtain ⟨t1, i, q, e, c, t3, t2, hv, hsc, i0, i1, hn⟩ := h
  by_cases c1 : i < 70
  · have hi2 : 0 ≤ i * i := Int.mul_nonneg i0 i0
    have hi3 : i * i ≤ 70 * i := Int.mul_le_mul_of_nonneg_right (by omega) i0
    have hk2 : 0 ≤ i * kk := Int.mul_nonneg i0 k0
    have hk3 : i * kk ≤ 70 * kk := Int.mul_le_mul_of_nonneg_right (by omega) k0
    have w1 : IntKind.i64.wrap (i * i) = i * i := w64_id (by omega) (by omega)
    have w2 : IntKind.i64.wrap (i * i + kk) = i * i + kk := w64_id (by omega) (by omega)
    have d1 : Int.tmod (i * i + kk) 6 = (i * i + kk) % 6 := Int.tmod_eq_emod_of_nonneg (by omega)
    have w3 : IntKind.i64.wrap (i * kk) = i * kk := w64_id (by omega) (by omega)
    have d2 : Int.tmod (i * kk) 97 = (i * kk) % 97 := Int.tmod_eq_emod_of_nonneg (by omega)
    have d3 : Int.tmod kk 3 = kk % 3 := Int.tmod_eq_emod_of_nonneg k0
    have w4 : IntKind.i64.wrap (kk % 3 * 500) = kk % 3 * 500 := w64_id (by omega) (by omega)
    have w5 : IntKind.i64.wrap (1 + kk % 3 * 500) = 1 + kk % 3 * 500 := w64_id (by omega) (by omega)
    obtain ⟨x, hx⟩ : ∃ x, (i * i + kk) % 6 = x := ⟨_, rfl⟩
    obtain ⟨y, hy⟩ : ∃ y, IntKind.i64.wrap (i * kk % 97 * (1 + kk % 3 * 500)) = y := ⟨_, rfl⟩
    have wy : (Lit.int .i64 y).wf = true := by
      rw [← hy, IntKind.wrap_i64]; exact mk_i64 (by omega) (by omega)
    have w6 : IntKind.i64.wrap (i + 1) = i + 1 := w64_id (by omega) (by omega)
    have h6 : ¬ ((6 : Int) = 0) := by decide
    have h97 : ¬ ((97 : Int) = 0) := by decide
    have h3 : ¬ ((3 : Int) = 0) := by decide
    have hsx : Scs [.int .i64, .int .i64] [.int .i64 x, .int .i64 y] := ⟨⟨rfl, mk_i64 (by omega) (by omega)⟩, ⟨rfl, wy⟩, trivial⟩
    have hve : Vec (S.alloc (.cells [.int .i64 x, .int .i64 y] 0 0 true)) q i.toNat 2 e c := hv.ext (.alloc _ _)
    obtain ⟨q', S2, hap, hv2, hg2, hq2⟩ := hve.append (bytes := 16) (xs := [.int .i64 x, .int .i64 y]) (n := 1) rfl (by decide) (by omega)
    have e1 : (i + 1).toNat = i.toNat + 1 := by omega
    simp -implicitDefEqProofs -dsimp (maxSteps := 10000000) only [af5_l1, ↓goes_loop, ↓goes_seq, ↓goes_reg, ↓goes_dreg, ↓goes_cond, ↓goes_block, ↓goes_skip, ↓goes_exit, ↓goes_ret, after_some, br_true, br_false, ↓then_normal, ↓then_exit, ↓then_ret, ↓blk_normal, ↓blk_exit, ↓blk_ret, ↓blk_other, ops_nil, ops_some, ops_none, oper_none, oper_some, gd_tt, gd_ff, gd_tf, gd_ft, ↓any_op, ↓any_call, ↓any_callV, ↓any_invoke, xo_t, xo_c, args_nil, args_cons, bin_add, bin_sub, bin_mul, bin_quo, bin_rem, bin_and, bin_or, bin_xor, bin_andNot, bin_eql, bin_neq, bin_lss, bin_leq, bin_gtr, bin_geq, bin_shl, bin_shr, bin_bools, bin_strs, bin_ptrs, bin_slices, bin_aggs, ↓Option.bind_some, ↓Option.map_some, ↓cond_true, ↓cond_false, evC, evOp, XO.lit, setArgs, Tr.get_set, Option.bind_some, Option.map_some, cond_true, cond_false, maxI, maxFrom, minI, minFrom, aConv, aBinE, aEq, eqScal, aUn, evRes, fin, oneOf, if_true, if_false, callee, reduceCtorEq, Nat.reduceEqDiff, and_self, decide_true, decide_false, beq_true, beq_false, Bool.not_true, Bool.not_false, List.getElem?_cons_zero, List.getElem?_cons_succ, beq_self_eq_true, gt_iff_lt, ble_dec, beq_dec, List.head?_cons, AV.undef, eq_self, ne_eq, not_true_eq_false, not_false_eq_true, Int.reduceLT, Int.reduceLE, Int.reduceToNat, Int.reduceEq, Int.reduceNeg, Nat.reduceAdd, Nat.reduceLT, Nat.reduceLeDiff, Nat.reduceMul, Nat.reduceSub, AV.cells, AV.tup, Bool.true_and, true_and, and_true, List.drop_nil, List.append_nil, rd_put, rd_alloc, rdO, St.get_put, St.get_alloc, St.next_put, St.next_alloc, St.wr, Bool.and_self, Bool.and_true, List.length_cons, List.length_nil, List.take_succ_cons, List.take_zero, List.drop_succ_cons, List.drop_zero, List.cons_append, List.nil_append, Nat.zero_add, Nat.add_zero, Nat.reduceMul, aFill, evParts, rep, List.replicate_succ, List.replicate_zero, List.flatten_cons, List.flatten_nil, List.append_nil, newSl, newVar, t1, t2, t3, c1, w1, w2, d1, hx, w3, d2, d3, w4, w5, hy, w6, h6, h97, h3, hap]
    refine ⟨n - 1, ⟨?_, i + 1, q', 2, _, ?_, ?_, by rw [e1]; exact hv2, by rw [e1]; exact Scs_snoc (ks := [.int .i64, .int .i64]) hv.sz hsc hsx, by omega, by omega, by omega⟩, by simp only [id]; omega⟩ <;>
      simp only [Tr.get_set, Nat.reduceEqDiff, if_false, if_true, t1, e1]
  · simp -implicitDefEqProofs -dsimp (maxSteps := 10000000) only [af5_l1, ↓goes_loop, ↓goes_seq, ↓goes_reg, ↓goes_dreg, ↓goes_cond, ↓goes_block, ↓goes_skip, ↓goes_exit, ↓goes_ret, after_some, br_true, br_false, ↓then_normal, ↓then_exit, ↓then_ret, ↓blk_normal, ↓blk_exit, ↓blk_ret, ↓blk_other, ops_nil, ops_some, ops_none, oper_none, oper_some, gd_tt, gd_ff, gd_tf, gd_ft, ↓any_op, ↓any_call, ↓any_callV, ↓any_invoke, xo_t, xo_c, args_nil, args_cons, bin_add, bin_sub, bin_mul, bin_quo, bin_rem, bin_and, bin_or, bin_xor, bin_andNot, bin_eql, bin_neq, bin_lss, bin_leq, bin_gtr, bin_geq, bin_shl, bin_shr, bin_bools, bin_strs, bin_ptrs, bin_slices, bin_aggs, ↓Option.bind_some, ↓Option.map_some, ↓cond_true, ↓cond_false, evC, evOp, XO.lit, setArgs, Tr.get_set, Option.bind_some, Option.map_some, cond_true, cond_false, maxI, maxFrom, minI, minFrom, aConv, aBinE, aEq, eqScal, aUn, evRes, fin, oneOf, if_true, if_false, callee, reduceCtorEq, Nat.reduceEqDiff, and_self, decide_true, decide_false, beq_true, beq_false, Bool.not_true, Bool.not_false, List.getElem?_cons_zero, List.getElem?_cons_succ, beq_self_eq_true, gt_iff_lt, ble_dec, beq_dec, List.head?_cons, AV.undef, eq_self, ne_eq, not_true_eq_false, not_false_eq_true, Int.reduceLT, Int.reduceLE, Int.reduceToNat, Int.reduceEq, Int.reduceNeg, Nat.reduceAdd, Nat.reduceLT, Nat.reduceLeDiff, Nat.reduceMul, Nat.reduceSub, AV.cells, AV.tup, Bool.true_and, true_and, and_true, List.drop_nil, List.append_nil, rd_put, rd_alloc, rdO, St.get_put, St.get_alloc, St.next_put, St.next_alloc, St.wr, Bool.and_self, Bool.and_true, List.length_cons, List.length_nil, List.take_succ_cons, List.take_zero, List.drop_succ_cons, List.drop_zero, List.cons_append, List.nil_append, Nat.zero_add, Nat.add_zero, Nat.reduceMul, t3, c1]
    refine ⟨n, ?_, i, q, e, c, ?_, ?_, hv, hsc, i0, i1, hn⟩ <;>
      simp only [Tr.get_set, Nat.reduceEqDiff, if_false, if_true, t1, t2, t3]
set_option maxHeartbeats 8000000 in
theorem roundJ2 (k : Nat) (n : Nat) (T : Tm) (S : St) (h : J2 n T S) :
    Goes (evF Y AP (k + 299)) (k + 299) af5_l2 T S (Then (fun T' S' => ∃ n', J2 n' T' S' ∧ id n' < id n) fun r T' S' => r = .exit 0) := by
  obtain ⟨kk, t1, k0, k1, hn⟩ := h
  by_cases c1 : kk < 40
  · have w1 : IntKind.i64.wrap (kk + 1) = kk + 1 := w64_id (by omega) (by omega)
    simp -implicitDefEqProofs -dsimp (maxSteps := 10000000) only [af5_l2, ↓goes_loop, ↓goes_seq, ↓goes_reg, ↓goes_dreg, ↓goes_cond, ↓goes_block, ↓goes_skip, ↓goes_exit, ↓goes_ret, after_some, br_true, br_false, ↓then_normal, ↓then_exit, ↓then_ret, ↓blk_normal, ↓blk_exit, ↓blk_ret, ↓blk_other, ops_nil, ops_some, ops_none, oper_none, oper_some, gd_tt, gd_ff, gd_tf, gd_ft, ↓any_op, ↓any_call, ↓any_callV, ↓any_invoke, xo_t, xo_c, args_nil, args_cons, bin_add, bin_sub, bin_mul, bin_quo, bin_rem, bin_and, bin_or, bin_xor, bin_andNot, bin_eql, bin_neq, bin_lss, bin_leq, bin_gtr, bin_geq, bin_shl, bin_shr, bin_bools, bin_strs, bin_ptrs, bin_slices, bin_aggs, ↓Option.bind_some, ↓Option.map_some, ↓cond_true, ↓cond_false, evC, evOp, XO.lit, setArgs, Tr.get_set, Option.bind_some, Option.map_some, cond_true, cond_false, maxI, maxFrom, minI, minFrom, aConv, aBinE, aEq, eqScal, aUn, evRes, fin, oneOf, if_true, if_false, callee, reduceCtorEq, Nat.reduceEqDiff, and_self, decide_true, decide_false, beq_true, beq_false, Bool.not_true, Bool.not_false, List.getElem?_cons_zero, List.getElem?_cons_succ, beq_self_eq_true, gt_iff_lt, ble_dec, beq_dec, List.head?_cons, AV.undef, eq_self, ne_eq, not_true_eq_false, not_false_eq_true, Int.reduceLT, Int.reduceLE, Int.reduceToNat, Int.reduceEq, Int.reduceNeg, Nat.reduceAdd, Nat.reduceLT, Nat.reduceLeDiff, Nat.reduceMul, Nat.reduceSub, AV.cells, AV.tup, Bool.true_and, true_and, and_true, List.drop_nil, List.append_nil, rd_put, rd_alloc, rdO, St.get_put, St.get_alloc, St.next_put, St.next_alloc, St.wr, Bool.and_self, Bool.and_true, List.length_cons, List.length_nil, List.take_succ_cons, List.take_zero, List.drop_succ_cons, List.drop_zero, List.cons_append, List.nil_append, Nat.zero_add, Nat.add_zero, Nat.reduceMul, t1, c1]
    refine .while (J1 kk) id 70 ?_ (by show 70 < k + 299; omega) fun n2 T2 S2 h2 => (roundJ1 k kk k0 c1 n2 T2 S2 h2).mono ?_
    · refine ⟨?_, 0, none, 0, [], ?_, ?_, .nil _ _ _, fun j hj => absurd hj (Nat.not_lt_zero _), by decide, by decide, rfl⟩
      · simp only [Tr.get_set, Nat.reduceEqDiff, if_false, if_true, t1]
      · simp only [Tr.get_set, Nat.reduceEqDiff, if_false, if_true]
      · simp only [Tr.get_set, Nat.reduceEqDiff, if_false, if_true]; rfl
    · intro r T' S' hr
      cases r with
      | normal => exact hr
      | ret => exact absurd hr.1 (by intro h; cases h)
      | exit id =>
        obtain ⟨hid, n', t1, i, q, e, c, t3, t2, hv, hsc, i0, i1, _⟩ := hr
        cases hid
        have hsl : Sl S' q i.toNat [.int .i64, .int .i64] := hv.sl (ks := [.int .i64, .int .i64]) (by omega) hsc
        have hk2 : 0 ≤ kk * kk := Int.mul_nonneg k0 k0
        have hk3 : kk * kk ≤ 40 * kk := Int.mul_le_mul_of_nonneg_right (by omega) k0
        have w2 : IntKind.i64.wrap (kk * kk) = kk * kk := w64_id (by omega) (by omega)
        have w3 : IntKind.i64.wrap (kk * kk * 100) = kk * kk * 100 := w64_id (by omega) (by omega)
        have w4 : IntKind.i64.wrap (kk * 30) = kk * 30 := w64_id (by omega) (by omega)
        have w5 : IntKind.i64.wrap (1099511627776 + kk) = 1099511627776 + kk := w64_id (by omega) (by omega)
        obtain ⟨S3, e3, x3⟩ := play15 (k + 99) (a := kk * kk * 100) (u := kk * 30) (wf_mk (by omega) (by omega)) hsl hv.ez
        obtain ⟨S4, e4, x4⟩ := play15 (k + 99) (a := 1099511627776 + kk) (u := 1099511627776) (wf_mk (by omega) (by omega)) (hsl.ext x3) hv.ez
        obtain ⟨S5, e5, x5⟩ := play15 (k + 99) (a := -5) (u := kk) (wf_mk (by omega) (by omega)) (hsl.ext (x3.trans x4)) hv.ez
        simp -implicitDefEqProofs -dsimp (maxSteps := 10000000) only [↓goes_loop, ↓goes_seq, ↓goes_reg, ↓goes_dreg, ↓goes_cond, ↓goes_block, ↓goes_skip, ↓goes_exit, ↓goes_ret, after_some, br_true, br_false, ↓then_normal, ↓then_exit, ↓then_ret, ↓blk_normal, ↓blk_exit, ↓blk_ret, ↓blk_other, ops_nil, ops_some, ops_none, oper_none, oper_some, gd_tt, gd_ff, gd_tf, gd_ft, ↓any_op, ↓any_call, ↓any_callV, ↓any_invoke, xo_t, xo_c, args_nil, args_cons, bin_add, bin_sub, bin_mul, bin_quo, bin_rem, bin_and, bin_or, bin_xor, bin_andNot, bin_eql, bin_neq, bin_lss, bin_leq, bin_gtr, bin_geq, bin_shl, bin_shr, bin_bools, bin_strs, bin_ptrs, bin_slices, bin_aggs, ↓Option.bind_some, ↓Option.map_some, ↓cond_true, ↓cond_false, evC, evOp, XO.lit, setArgs, Tr.get_set, Option.bind_some, Option.map_some, cond_true, cond_false, maxI, maxFrom, minI, minFrom, aConv, aBinE, aEq, eqScal, aUn, evRes, fin, oneOf, if_true, if_false, callee, reduceCtorEq, Nat.reduceEqDiff, and_self, decide_true, decide_false, beq_true, beq_false, Bool.not_true, Bool.not_false, List.getElem?_cons_zero, List.getElem?_cons_succ, beq_self_eq_true, gt_iff_lt, ble_dec, beq_dec, List.head?_cons, AV.undef, eq_self, ne_eq, not_true_eq_false, not_false_eq_true, Int.reduceLT, Int.reduceLE, Int.reduceToNat, Int.reduceEq, Int.reduceNeg, Nat.reduceAdd, Nat.reduceLT, Nat.reduceLeDiff, Nat.reduceMul, Nat.reduceSub, AV.cells, AV.tup, Bool.true_and, true_and, and_true, List.drop_nil, List.append_nil, rd_put, rd_alloc, rdO, St.get_put, St.get_alloc, St.next_put, St.next_alloc, St.wr, Bool.and_self, Bool.and_true, List.length_cons, List.length_nil, List.take_succ_cons, List.take_zero, List.drop_succ_cons, List.drop_zero, List.cons_append, List.nil_append, Nat.zero_add, Nat.add_zero, Nat.reduceMul, t1, t2, w1, w2, w3, w4, w5, e3, e4, e5]
        refine ⟨n - 1, ⟨kk + 1, ?_, by omega, by omega, by omega⟩, by simp only [_root_.id]; omega⟩
        simp only [Tr.get_set, Nat.reduceEqDiff, if_false, if_true]
  · simp -implicitDefEqProofs -dsimp (maxSteps := 10000000) only [af5_l2, ↓goes_loop, ↓goes_seq, ↓goes_reg, ↓goes_dreg, ↓goes_cond, ↓goes_block, ↓goes_skip, ↓goes_exit, ↓goes_ret, after_some, br_true, br_false, ↓then_normal, ↓then_exit, ↓then_ret, ↓blk_normal, ↓blk_exit, ↓blk_ret, ↓blk_other, ops_nil, ops_some, ops_none, oper_none, oper_some, gd_tt, gd_ff, gd_tf, gd_ft, ↓any_op, ↓any_call, ↓any_callV, ↓any_invoke, xo_t, xo_c, args_nil, args_cons, bin_add, bin_sub, bin_mul, bin_quo, bin_rem, bin_and, bin_or, bin_xor, bin_andNot, bin_eql, bin_neq, bin_lss, bin_leq, bin_gtr, bin_geq, bin_shl, bin_shr, bin_bools, bin_strs, bin_ptrs, bin_slices, bin_aggs, ↓Option.bind_some, ↓Option.map_some, ↓cond_true, ↓cond_false, evC, evOp, XO.lit, setArgs, Tr.get_set, Option.bind_some, Option.map_some, cond_true, cond_false, maxI, maxFrom, minI, minFrom, aConv, aBinE, aEq, eqScal, aUn, evRes, fin, oneOf, if_true, if_false, callee, reduceCtorEq, Nat.reduceEqDiff, and_self, decide_true, decide_false, beq_true, beq_false, Bool.not_true, Bool.not_false, List.getElem?_cons_zero, List.getElem?_cons_succ, beq_self_eq_true, gt_iff_lt, ble_dec, beq_dec, List.head?_cons, AV.undef, eq_self, ne_eq, not_true_eq_false, not_false_eq_true, Int.reduceLT, Int.reduceLE, Int.reduceToNat, Int.reduceEq, Int.reduceNeg, Nat.reduceAdd, Nat.reduceLT, Nat.reduceLeDiff, Nat.reduceMul, Nat.reduceSub, AV.cells, AV.tup, Bool.true_and, true_and, and_true, List.drop_nil, List.append_nil, rd_put, rd_alloc, rdO, St.get_put, St.get_alloc, St.next_put, St.next_alloc, St.wr, Bool.and_self, Bool.and_true, List.length_cons, List.length_nil, List.take_succ_cons, List.take_zero, List.drop_succ_cons, List.drop_zero, List.cons_append, List.nil_append, Nat.zero_add, Nat.add_zero, Nat.reduceMul, t1, c1]
set_option maxHeartbeats 8000000 in
theorem roundJ0 (k : Nat) (p : Option (Nat × Nat × Nat)) (n : Nat) (T : Tm) (S : St) (h : J0 p n T S) :
    Goes (evF Y AP (k + 299)) (k + 299) af5_l0 T S (Then (fun T' S' => ∃ n', J0 p n' T' S' ∧ id n' < id n) fun r T' S' => r = .exit 4) := by
  obtain ⟨t55, t56, sc, m, t57, m0, m1, hn⟩ := h
  by_cases hm : m < 6
  · obtain ⟨o, v, j, rfl, ho⟩ := sc.at_ (by decide)
    obtain ⟨z, hz, wz⟩ := sc.int m0 (by rw [c6]; exact hm)
    have w : IntKind.i64.wrap (m + 1) = m + 1 := w64_id (by omega) (by omega)
    have hix : ixOf (.int .i64 m) 6 = some m.toNat := ix_ok m0 (by rw [c6]; exact hm)
    have hsl : Sl (S.alloc (.cells [.int .i64 2, .int .i64 z, .int .i64 0, .int .i64 z, .int .i64 5, .int .i64 z, .int .i64 0, .int .i64 1, .int .i64 3, .int .i64 1] 0 0 true)) (some (S.next, 0, 0)) 5 [.int .i64, .int .i64] := by
      refine .mk_lit S _ 5 _ (by decide) rfl fun i hi => ?_
      match i, hi with
      | 0, _ => exact ⟨⟨rfl, by decide⟩, ⟨rfl, wz⟩, trivial⟩
      | 1, _ => exact ⟨⟨rfl, by decide⟩, ⟨rfl, wz⟩, trivial⟩
      | 2, _ => exact ⟨⟨rfl, by decide⟩, ⟨rfl, wz⟩, trivial⟩
      | 3, _ => exact ⟨⟨rfl, by decide⟩, ⟨rfl, by decide⟩, trivial⟩
      | 4, _ => exact ⟨⟨rfl, by decide⟩, ⟨rfl, by decide⟩, trivial⟩
    obtain ⟨S3, e3, x3⟩ := play15 (k + 99) (a := z) (u := z) (wf_i64 wz) hsl (e := 2) (.inr rfl)
    simp -implicitDefEqProofs -dsimp (maxSteps := 10000000) only [af5_l0, ↓goes_loop, ↓goes_seq, ↓goes_reg, ↓goes_dreg, ↓goes_cond, ↓goes_block, ↓goes_skip, ↓goes_exit, ↓goes_ret, after_some, br_true, br_false, ↓then_normal, ↓then_exit, ↓then_ret, ↓blk_normal, ↓blk_exit, ↓blk_ret, ↓blk_other, ops_nil, ops_some, ops_none, oper_none, oper_some, gd_tt, gd_ff, gd_tf, gd_ft, ↓any_op, ↓any_call, ↓any_callV, ↓any_invoke, xo_t, xo_c, args_nil, args_cons, bin_add, bin_sub, bin_mul, bin_quo, bin_rem, bin_and, bin_or, bin_xor, bin_andNot, bin_eql, bin_neq, bin_lss, bin_leq, bin_gtr, bin_geq, bin_shl, bin_shr, bin_bools, bin_strs, bin_ptrs, bin_slices, bin_aggs, ↓Option.bind_some, ↓Option.map_some, ↓cond_true, ↓cond_false, evC, evOp, XO.lit, setArgs, Tr.get_set, Option.bind_some, Option.map_some, cond_true, cond_false, maxI, maxFrom, minI, minFrom, aConv, aBinE, aEq, eqScal, aUn, evRes, fin, oneOf, if_true, if_false, callee, reduceCtorEq, Nat.reduceEqDiff, and_self, decide_true, decide_false, beq_true, beq_false, Bool.not_true, Bool.not_false, List.getElem?_cons_zero, List.getElem?_cons_succ, beq_self_eq_true, gt_iff_lt, ble_dec, beq_dec, List.head?_cons, AV.undef, eq_self, ne_eq, not_true_eq_false, not_false_eq_true, Int.reduceLT, Int.reduceLE, Int.reduceToNat, Int.reduceEq, Int.reduceNeg, Nat.reduceAdd, Nat.reduceLT, Nat.reduceLeDiff, Nat.reduceMul, Nat.reduceSub, AV.cells, AV.tup, Bool.true_and, true_and, and_true, List.drop_nil, List.append_nil, rd_put, rd_alloc, rdO, St.get_put, St.get_alloc, St.next_put, St.next_alloc, St.wr, Bool.and_self, Bool.and_true, List.length_cons, List.length_nil, List.take_succ_cons, List.take_zero, List.drop_succ_cons, List.drop_zero, List.cons_append, List.nil_append, Nat.zero_add, Nat.add_zero, Nat.reduceMul, aFill, evParts, rep, List.replicate_succ, List.replicate_zero, List.flatten_cons, List.flatten_nil, List.append_nil, newSl, newVar, t55, t56, t57, hm, hix, hz, w, e3]
    refine ⟨n - 1, ⟨?_, ?_, sc.ext ((Ext.alloc _ _).trans x3), m + 1, ?_, by omega, by omega, by omega⟩, by simp only [id]; omega⟩ <;>
      simp only [Tr.get_set, Nat.reduceEqDiff, if_false, if_true, t55, t56]
  · simp -implicitDefEqProofs -dsimp (maxSteps := 10000000) only [af5_l0, ↓goes_loop, ↓goes_seq, ↓goes_reg, ↓goes_dreg, ↓goes_cond, ↓goes_block, ↓goes_skip, ↓goes_exit, ↓goes_ret, after_some, br_true, br_false, ↓then_normal, ↓then_exit, ↓then_ret, ↓blk_normal, ↓blk_exit, ↓blk_ret, ↓blk_other, ops_nil, ops_some, ops_none, oper_none, oper_some, gd_tt, gd_ff, gd_tf, gd_ft, ↓any_op, ↓any_call, ↓any_callV, ↓any_invoke, xo_t, xo_c, args_nil, args_cons, bin_add, bin_sub, bin_mul, bin_quo, bin_rem, bin_and, bin_or, bin_xor, bin_andNot, bin_eql, bin_neq, bin_lss, bin_leq, bin_gtr, bin_geq, bin_shl, bin_shr, bin_bools, bin_strs, bin_ptrs, bin_slices, bin_aggs, ↓Option.bind_some, ↓Option.map_some, ↓cond_true, ↓cond_false, evC, evOp, XO.lit, setArgs, Tr.get_set, Option.bind_some, Option.map_some, cond_true, cond_false, maxI, maxFrom, minI, minFrom, aConv, aBinE, aEq, eqScal, aUn, evRes, fin, oneOf, if_true, if_false, callee, reduceCtorEq, Nat.reduceEqDiff, and_self, decide_true, decide_false, beq_true, beq_false, Bool.not_true, Bool.not_false, List.getElem?_cons_zero, List.getElem?_cons_succ, beq_self_eq_true, gt_iff_lt, ble_dec, beq_dec, List.head?_cons, AV.undef, eq_self, ne_eq, not_true_eq_false, not_false_eq_true, Int.reduceLT, Int.reduceLE, Int.reduceToNat, Int.reduceEq, Int.reduceNeg, Nat.reduceAdd, Nat.reduceLT, Nat.reduceLeDiff, Nat.reduceMul, Nat.reduceSub, AV.cells, AV.tup, Bool.true_and, true_and, and_true, List.drop_nil, List.append_nil, rd_put, rd_alloc, rdO, St.get_put, St.get_alloc, St.next_put, St.next_alloc, St.wr, Bool.and_self, Bool.and_true, List.length_cons, List.length_nil, List.take_succ_cons, List.take_zero, List.drop_succ_cons, List.drop_zero, List.cons_append, List.nil_append, Nat.zero_add, Nat.add_zero, Nat.reduceMul, t56, t57, hm]
set_option maxHeartbeats 8000000 in
theorem ev5 (k : Nat) (S : St) : ∃ S', evF Y AP (k + 300) 5 [] S = some (.bool true, S') := by
  suffices hs : ∃ v S', evF Y AP (k + 300) 5 [] S = some (v, S') ∧ v = .bool true by
    obtain ⟨v, S', h1, rfl⟩ := hs; exact ⟨S', h1⟩
  refine evF_goes (af := af5) (k := k + 299) rfl rfl rfl ?_
  simp -implicitDefEqProofs -dsimp (maxSteps := 10000000) only [af5, ↓goes_loop, ↓goes_seq, ↓goes_reg, ↓goes_dreg, ↓goes_cond, ↓goes_block, ↓goes_skip, ↓goes_exit, ↓goes_ret, after_some, br_true, br_false, ↓then_normal, ↓then_exit, ↓then_ret, ↓blk_normal, ↓blk_exit, ↓blk_ret, ↓blk_other, ops_nil, ops_some, ops_none, oper_none, oper_some, gd_tt, gd_ff, gd_tf, gd_ft, ↓any_op, ↓any_call, ↓any_callV, ↓any_invoke, xo_t, xo_c, args_nil, args_cons, bin_add, bin_sub, bin_mul, bin_quo, bin_rem, bin_and, bin_or, bin_xor, bin_andNot, bin_eql, bin_neq, bin_lss, bin_leq, bin_gtr, bin_geq, bin_shl, bin_shr, bin_bools, bin_strs, bin_ptrs, bin_slices, bin_aggs, ↓Option.bind_some, ↓Option.map_some, ↓cond_true, ↓cond_false, evC, evOp, XO.lit, setArgs, Tr.tabG, Tr.tabS, Tr.tabL, Tr.get_lf, Option.bind_some, Option.map_some, cond_true, cond_false, maxI, maxFrom, minI, minFrom, aConv, aBinE, aEq, eqScal, aUn, evRes, fin, oneOf, if_true, if_false, callee, reduceCtorEq, Nat.reduceEqDiff, and_self, decide_true, decide_false, beq_true, beq_false, Bool.not_true, Bool.not_false, List.getElem?_cons_zero, List.getElem?_cons_succ, beq_self_eq_true, gt_iff_lt, ble_dec, beq_dec, List.head?_cons, AV.undef, eq_self, ne_eq, not_true_eq_false, not_false_eq_true, Int.reduceLT, Int.reduceLE, Int.reduceToNat, Int.reduceEq, Int.reduceNeg, Nat.reduceAdd, Nat.reduceLT, Nat.reduceLeDiff, Nat.reduceMul, Nat.reduceSub, AV.cells, AV.tup, Bool.true_and, true_and, and_true, List.drop_nil, List.append_nil, rd_put, rd_alloc, rdO, St.get_put, St.get_alloc, St.next_put, St.next_alloc, St.wr, Bool.and_self, Bool.and_true, List.length_cons, List.length_nil, List.take_succ_cons, List.take_zero, List.drop_succ_cons, List.drop_zero, List.cons_append, List.nil_append, Nat.zero_add, Nat.add_zero, Nat.reduceMul, aFill, evParts, rep, List.replicate_succ, List.replicate_zero, List.flatten_cons, List.flatten_nil, List.append_nil, newSl, newVar]
  refine .while J2 id 40 ?_ (by show 40 < k + 299; omega) fun n2 T2 S2 h2 => (roundJ2 k n2 T2 S2 h2).mono ?_
  · exact ⟨0, rfl, by decide, by decide, rfl⟩
  · intro r T' S' hr
    cases r with
    | normal => exact hr
    | ret => exact absurd hr (by intro h; cases h)
    | exit id =>
      cases hr
      simp -implicitDefEqProofs -dsimp (maxSteps := 10000000) only [↓goes_loop, ↓goes_seq, ↓goes_reg, ↓goes_dreg, ↓goes_cond, ↓goes_block, ↓goes_skip, ↓goes_exit, ↓goes_ret, after_some, br_true, br_false, ↓then_normal, ↓then_exit, ↓then_ret, ↓blk_normal, ↓blk_exit, ↓blk_ret, ↓blk_other, ops_nil, ops_some, ops_none, oper_none, oper_some, gd_tt, gd_ff, gd_tf, gd_ft, ↓any_op, ↓any_call, ↓any_callV, ↓any_invoke, xo_t, xo_c, args_nil, args_cons, bin_add, bin_sub, bin_mul, bin_quo, bin_rem, bin_and, bin_or, bin_xor, bin_andNot, bin_eql, bin_neq, bin_lss, bin_leq, bin_gtr, bin_geq, bin_shl, bin_shr, bin_bools, bin_strs, bin_ptrs, bin_slices, bin_aggs, ↓Option.bind_some, ↓Option.map_some, ↓cond_true, ↓cond_false, evC, evOp, XO.lit, setArgs, Tr.get_set, Option.bind_some, Option.map_some, cond_true, cond_false, maxI, maxFrom, minI, minFrom, aConv, aBinE, aEq, eqScal, aUn, evRes, fin, oneOf, if_true, if_false, callee, reduceCtorEq, Nat.reduceEqDiff, and_self, decide_true, decide_false, beq_true, beq_false, Bool.not_true, Bool.not_false, List.getElem?_cons_zero, List.getElem?_cons_succ, beq_self_eq_true, gt_iff_lt, ble_dec, beq_dec, List.head?_cons, AV.undef, eq_self, ne_eq, not_true_eq_false, not_false_eq_true, Int.reduceLT, Int.reduceLE, Int.reduceToNat, Int.reduceEq, Int.reduceNeg, Nat.reduceAdd, Nat.reduceLT, Nat.reduceLeDiff, Nat.reduceMul, Nat.reduceSub, AV.cells, AV.tup, Bool.true_and, true_and, and_true, List.drop_nil, List.append_nil, rd_put, rd_alloc, rdO, St.get_put, St.get_alloc, St.next_put, St.next_alloc, St.wr, Bool.and_self, Bool.and_true, List.length_cons, List.length_nil, List.take_succ_cons, List.take_zero, List.drop_succ_cons, List.drop_zero, List.cons_append, List.nil_append, Nat.zero_add, Nat.add_zero, Nat.reduceMul, aFill, evParts, rep, List.replicate_succ, List.replicate_zero, List.flatten_cons, List.flatten_nil, List.append_nil, newSl, newVar, c6]
      refine .while (J0 (some (S'.next, 0, 0))) _root_.id 6 ⟨?_, ?_, Sl.lit S' _ 6 [.int .i64] (by decide) rfl (by rfl), 0, ?_, by decide, by decide, rfl⟩ (by show 6 < k + 299; omega) fun n2 T2 S2 h2 => (roundJ0 k _ n2 T2 S2 h2).mono ?_
      · simp only [Tr.get_set, Nat.reduceEqDiff, if_false, if_true]
      · simp only [Tr.get_set, Nat.reduceEqDiff, if_false, if_true]
      · simp only [Tr.get_set, Nat.reduceEqDiff, if_false, if_true]
      · intro r T' S' hr
        cases r with
        | normal => exact hr
        | ret => exact absurd hr (by intro h; cases h)
        | exit id =>
          cases hr
          simp -implicitDefEqProofs -dsimp (maxSteps := 10000000) only [↓goes_loop, ↓goes_seq, ↓goes_reg, ↓goes_dreg, ↓goes_cond, ↓goes_block, ↓goes_skip, ↓goes_exit, ↓goes_ret, after_some, br_true, br_false, ↓then_normal, ↓then_exit, ↓then_ret, ↓blk_normal, ↓blk_exit, ↓blk_ret, ↓blk_other, ops_nil, ops_some, ops_none, oper_none, oper_some, gd_tt, gd_ff, gd_tf, gd_ft, ↓any_op, ↓any_call, ↓any_callV, ↓any_invoke, xo_t, xo_c, args_nil, args_cons, bin_add, bin_sub, bin_mul, bin_quo, bin_rem, bin_and, bin_or, bin_xor, bin_andNot, bin_eql, bin_neq, bin_lss, bin_leq, bin_gtr, bin_geq, bin_shl, bin_shr, bin_bools, bin_strs, bin_ptrs, bin_slices, bin_aggs, ↓Option.bind_some, ↓Option.map_some, ↓cond_true, ↓cond_false, evC, evOp, XO.lit, setArgs, Tr.get_set, Option.bind_some, Option.map_some, cond_true, cond_false, maxI, maxFrom, minI, minFrom, aConv, aBinE, aEq, eqScal, aUn, evRes, fin, oneOf, if_true, if_false, callee, reduceCtorEq, Nat.reduceEqDiff, and_self, decide_true, decide_false, beq_true, beq_false, Bool.not_true, Bool.not_false, List.getElem?_cons_zero, List.getElem?_cons_succ, beq_self_eq_true, gt_iff_lt, ble_dec, beq_dec, List.head?_cons, AV.undef, eq_self, ne_eq, not_true_eq_false, not_false_eq_true, Int.reduceLT, Int.reduceLE, Int.reduceToNat, Int.reduceEq, Int.reduceNeg, Nat.reduceAdd, Nat.reduceLT, Nat.reduceLeDiff, Nat.reduceMul, Nat.reduceSub, AV.cells, AV.tup, Bool.true_and, true_and, and_true, List.drop_nil, List.append_nil, rd_put, rd_alloc, rdO, St.get_put, St.get_alloc, St.next_put, St.next_alloc, St.wr, Bool.and_self, Bool.and_true, List.length_cons, List.length_nil, List.take_succ_cons, List.take_zero, List.drop_succ_cons, List.drop_zero, List.cons_append, List.nil_append, Nat.zero_add, Nat.add_zero, Nat.reduceMul, y14]
          exact ⟨_, _, rfl, rfl⟩
theorem law5 : ∃ S', evF Y AP (0 + 300) 5 [] S0 = some (.bool true, S') := ev5 0 S0
end Go.Proofs.YteeijgjibdhkeaaA
