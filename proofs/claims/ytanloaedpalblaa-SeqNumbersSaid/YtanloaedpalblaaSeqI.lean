/- Chapter 15: the closed sentence: its loops. -/
import Derived.Test.YtanloaedpalblaaSeqH
set_option linter.unusedVariables false
set_option linter.unusedSimpArgs false
set_option maxRecDepth 10000
namespace Go.Proofs.YtanloaedpalblaaA
open Go.RowKit
attribute [local congr] bind_congr1 map_congr1 cond_congr1 withX_congr after_congr br_congr gd_congr

def scB : Sc → AV → Bool
  | .int k, .int k' n => decide (k' = k) && (Lit.int k n).wf
  | .bool, .bool _ => true
  | _, _ => false
def scsB : List Sc → List AV → Bool
  | [], [] => true
  | k :: ks, x :: xs => scB k x && scsB ks xs
  | _, _ => false
theorem scsB_ok : ∀ {ks : List Sc} {xs : List AV}, scsB ks xs = true → Scs ks xs
  | [], [], _ => trivial
  | k :: ks, x :: xs, h => by
    simp only [scsB, Bool.and_eq_true] at h
    refine ⟨?_, scsB_ok h.2⟩
    have h1 := h.1
    cases k <;> cases x <;> simp only [scB, Bool.and_eq_true, decide_eq_true_eq, Bool.false_eq_true] at h1
    · exact h1
    · trivial
/-- A slice that is laid out whole is read. -/
theorem Sl.lit (S : St) (xs : List AV) (len : Nat) (ks : List Sc) (hm : len ≤ 1000000) (hl : xs.length = len * ks.length) (hs : ((List.range len).all fun i => scsB ks ((xs.drop (i * ks.length)).take ks.length)) = true) :
    Sl (S.alloc (.cells xs 0 0 true)) (some (S.next, 0, 0)) len ks := by
  refine ⟨fun _ => ⟨_, _, _, rfl, Nat.lt_succ_self _⟩, by omega, fun o v i e j hj => ?_⟩
  cases e
  have hle : (j + 1) * ks.length ≤ len * ks.length := Nat.mul_le_mul_right _ (by omega)
  rw [Nat.succ_mul] at hle
  refine ⟨_, rd_cells (by rw [St.get_alloc, if_pos rfl]) (Nat.le_refl _) (by omega), scsB_ok ?_⟩
  rw [List.all_eq_true] at hs
  rw [Nat.zero_add]
  exact hs j (List.mem_range.2 hj)
structure I2 (a b c : Int) (pa pb pc : Option (Nat × Nat × Nat)) (Sb : St) (i j : Int) (n : Nat) (T : Tm) (S : St) : Prop where
  ext : Ext Sb S
  t11 : T.get 11 = some (.slice pa 16 1 none)
  t12 : T.get 12 = some (.int .i64 16)
  t13 : T.get 13 = some (.int .i64 i)
  t2 : T.get 2 = some (.int .i64 a)
  t17 : T.get 17 = some (.slice pb 6 1 none)
  t18 : T.get 18 = some (.int .i64 6)
  t19 : T.get 19 = some (.int .i64 j)
  t4 : T.get 4 = some (.int .u16 b)
  t23 : T.get 23 = some (.slice pc 6 1 none)
  t24 : T.get 24 = some (.int .i64 6)
  sc : Sl S pc 6 [.int .u32]
  more : ∃ m : Int, T.get 25 = some (.int .i64 m) ∧ 0 ≤ m ∧ m ≤ 6 ∧ (n : Int) = 6 - m
structure I3 (a : Int) (pa pb : Option (Nat × Nat × Nat)) (Sb : St) (i : Int) (n : Nat) (T : Tm) (S : St) : Prop where
  ext : Ext Sb S
  t11 : T.get 11 = some (.slice pa 16 1 none)
  t12 : T.get 12 = some (.int .i64 16)
  t13 : T.get 13 = some (.int .i64 i)
  t2 : T.get 2 = some (.int .i64 a)
  t17 : T.get 17 = some (.slice pb 6 1 none)
  t18 : T.get 18 = some (.int .i64 6)
  sb : Sl S pb 6 [.int .u16]
  more : ∃ m : Int, T.get 19 = some (.int .i64 m) ∧ 0 ≤ m ∧ m ≤ 6 ∧ (n : Int) = 6 - m
structure I4' (pa : Option (Nat × Nat × Nat)) (n : Nat) (T : Tm) (S : St) : Prop where
  t11 : T.get 11 = some (.slice pa 16 1 none)
  t12 : T.get 12 = some (.int .i64 16)
  sa : Sl S pa 16 [.int .i64]
  more : ∃ m : Int, T.get 13 = some (.int .i64 m) ∧ 0 ≤ m ∧ m ≤ 16 ∧ (n : Int) = 16 - m
theorem c6 : ((6 : Nat) : Int) = 6 := rfl
theorem c10 : ((10 : Nat) : Int) = 10 := rfl
theorem c16 : ((16 : Nat) : Int) = 16 := rfl
theorem roundA (k : Nat) (a b c : Int) (pa pb pc : Option (Nat × Nat × Nat)) (Sb : St) (i j : Int) (n : Nat) (T : Tm) (S : St) (h : I2 a b c pa pb pc Sb i j n T S) :
    Goes (evF X6 AP (k + 999)) (k + 999) af3_l2 T S (Then (fun T' S' => ∃ n', I2 a b c pa pb pc Sb i j n' T' S' ∧ id n' < id n) fun r T' S' => r = .exit 4 ∧ ∃ n', I2 a b c pa pb pc Sb i j n' T' S') := by
  have hI := h
  obtain ⟨he, t11, t12, t13, t2, t17, t18, t19, t4, t23, t24, sc, m, t25, m0, m1, hn⟩ := h
  by_cases hm : m < 6
  · obtain ⟨o, v, p, rfl, ho⟩ := sc.at_ (by decide)
    obtain ⟨z, hz, wz⟩ := sc.int m0 (by rw [c6]; exact hm)
    have w : IntKind.i64.wrap (m + 1) = m + 1 := w64_id (by omega) (by omega)
    have hix : ixOf (.int .i64 m) 6 = some m.toNat := ix_ok m0 (by rw [c6]; exact hm)
    simp -implicitDefEqProofs -dsimp (maxSteps := 10000000) only [af3_l2, ↓goes_loop, ↓goes_seq, ↓goes_reg, ↓goes_dreg, ↓goes_cond, ↓goes_block, ↓goes_skip, ↓goes_exit, ↓goes_ret, after_some, br_true, br_false, ↓then_normal, ↓then_exit, ↓then_ret, ↓blk_normal, ↓blk_exit, ↓blk_ret, ↓blk_other, ops_nil, ops_some, ops_none, oper_none, oper_some, gd_tt, gd_ff, gd_tf, gd_ft, ↓any_op, ↓any_call, ↓any_callV, ↓any_invoke, xo_t, xo_c, args_nil, args_cons, bin_add, bin_sub, bin_mul, bin_quo, bin_rem, bin_and, bin_or, bin_xor, bin_andNot, bin_eql, bin_neq, bin_lss, bin_leq, bin_gtr, bin_geq, bin_shl, bin_shr, bin_bools, bin_strs, bin_ptrs, bin_slices, bin_aggs, ↓Option.bind_some, ↓Option.map_some, ↓cond_true, ↓cond_false, evC, evOp, XO.lit, setArgs, Tr.get_set, Option.bind_some, Option.map_some, cond_true, cond_false, maxI, maxFrom, minI, minFrom, aConv, aBinE, aEq, eqScal, aUn, evRes, fin, oneOf, if_true, if_false, callee, reduceCtorEq, Nat.reduceEqDiff, and_self, decide_true, decide_false, beq_true, beq_false, Bool.not_true, Bool.not_false, List.getElem?_cons_zero, List.getElem?_cons_succ, beq_self_eq_true, gt_iff_lt, ble_dec, beq_dec, List.head?_cons, AV.undef, eq_self, ne_eq, not_true_eq_false, not_false_eq_true, Int.reduceLT, Int.reduceLE, Int.reduceToNat, Int.reduceEq, Int.reduceNeg, Nat.reduceAdd, Nat.reduceLT, Nat.reduceLeDiff, Nat.reduceMul, Nat.reduceSub, AV.cells, AV.tup, Bool.true_and, true_and, and_true, List.drop_nil, List.append_nil, rd_put, rd_alloc, rdO, St.get_put, St.get_alloc, St.next_put, St.next_alloc, St.wr, Bool.and_self, Bool.and_true, List.length_cons, List.length_nil, List.take_succ_cons, List.take_zero, List.drop_succ_cons, List.drop_zero, List.cons_append, List.nil_append, Nat.zero_add, Nat.add_zero, Nat.reduceMul, t2, t4, t23, t24, t25, hm, hix, hz, w, x6_8]
    refine ⟨n - 1, ⟨he, ?_, ?_, ?_, ?_, ?_, ?_, ?_, ?_, ?_, ?_, sc, m + 1, ?_, by omega, by omega, by omega⟩, by simp only [id]; omega⟩ <;>
      simp only [Tr.get_set, Nat.reduceEqDiff, if_false, if_true, t11, t12, t13, t2, t17, t18, t19, t4, t23, t24]
  · simp -implicitDefEqProofs -dsimp (maxSteps := 10000000) only [af3_l2, ↓goes_loop, ↓goes_seq, ↓goes_reg, ↓goes_dreg, ↓goes_cond, ↓goes_block, ↓goes_skip, ↓goes_exit, ↓goes_ret, after_some, br_true, br_false, ↓then_normal, ↓then_exit, ↓then_ret, ↓blk_normal, ↓blk_exit, ↓blk_ret, ↓blk_other, ops_nil, ops_some, ops_none, oper_none, oper_some, gd_tt, gd_ff, gd_tf, gd_ft, ↓any_op, ↓any_call, ↓any_callV, ↓any_invoke, xo_t, xo_c, args_nil, args_cons, bin_add, bin_sub, bin_mul, bin_quo, bin_rem, bin_and, bin_or, bin_xor, bin_andNot, bin_eql, bin_neq, bin_lss, bin_leq, bin_gtr, bin_geq, bin_shl, bin_shr, bin_bools, bin_strs, bin_ptrs, bin_slices, bin_aggs, ↓Option.bind_some, ↓Option.map_some, ↓cond_true, ↓cond_false, evC, evOp, XO.lit, setArgs, Tr.get_set, Option.bind_some, Option.map_some, cond_true, cond_false, maxI, maxFrom, minI, minFrom, aConv, aBinE, aEq, eqScal, aUn, evRes, fin, oneOf, if_true, if_false, callee, reduceCtorEq, Nat.reduceEqDiff, and_self, decide_true, decide_false, beq_true, beq_false, Bool.not_true, Bool.not_false, List.getElem?_cons_zero, List.getElem?_cons_succ, beq_self_eq_true, gt_iff_lt, ble_dec, beq_dec, List.head?_cons, AV.undef, eq_self, ne_eq, not_true_eq_false, not_false_eq_true, Int.reduceLT, Int.reduceLE, Int.reduceToNat, Int.reduceEq, Int.reduceNeg, Nat.reduceAdd, Nat.reduceLT, Nat.reduceLeDiff, Nat.reduceMul, Nat.reduceSub, AV.cells, AV.tup, Bool.true_and, true_and, and_true, List.drop_nil, List.append_nil, rd_put, rd_alloc, rdO, St.get_put, St.get_alloc, St.next_put, St.next_alloc, St.wr, Bool.and_self, Bool.and_true, List.length_cons, List.length_nil, List.take_succ_cons, List.take_zero, List.drop_succ_cons, List.drop_zero, List.cons_append, List.nil_append, Nat.zero_add, Nat.add_zero, Nat.reduceMul, t24, t25, hm]
    refine ⟨n, he, ?_, ?_, ?_, ?_, ?_, ?_, ?_, ?_, ?_, ?_, sc, m, ?_, m0, m1, hn⟩ <;>
      simp only [Tr.get_set, Nat.reduceEqDiff, if_false, if_true, t11, t12, t13, t2, t17, t18, t19, t4, t23, t24, t25]
set_option maxHeartbeats 4000000 in
theorem roundB (k : Nat) (a : Int) (pa pb : Option (Nat × Nat × Nat)) (Sb : St) (i : Int) (n : Nat) (T : Tm) (S : St) (h : I3 a pa pb Sb i n T S) :
    Goes (evF X6 AP (k + 999)) (k + 999) af3_l3 T S (Then (fun T' S' => ∃ n', I3 a pa pb Sb i n' T' S' ∧ id n' < id n) fun r T' S' => r = .exit 2 ∧ ∃ n', I3 a pa pb Sb i n' T' S') := by
  obtain ⟨he, t11, t12, t13, t2, t17, t18, sb, m, t19, m0, m1, hn⟩ := h
  by_cases hm : m < 6
  · obtain ⟨o, v, p, rfl, ho⟩ := sb.at_ (by decide)
    obtain ⟨z, hz, wz⟩ := sb.int m0 (by rw [c6]; exact hm)
    have w : IntKind.i64.wrap (m + 1) = m + 1 := w64_id (by omega) (by omega)
    have hix : ixOf (.int .i64 m) 6 = some m.toNat := ix_ok m0 (by rw [c6]; exact hm)
    simp -implicitDefEqProofs -dsimp (maxSteps := 10000000) only [af3_l3, ↓goes_loop, ↓goes_seq, ↓goes_reg, ↓goes_dreg, ↓goes_cond, ↓goes_block, ↓goes_skip, ↓goes_exit, ↓goes_ret, after_some, br_true, br_false, ↓then_normal, ↓then_exit, ↓then_ret, ↓blk_normal, ↓blk_exit, ↓blk_ret, ↓blk_other, ops_nil, ops_some, ops_none, oper_none, oper_some, gd_tt, gd_ff, gd_tf, gd_ft, ↓any_op, ↓any_call, ↓any_callV, ↓any_invoke, xo_t, xo_c, args_nil, args_cons, bin_add, bin_sub, bin_mul, bin_quo, bin_rem, bin_and, bin_or, bin_xor, bin_andNot, bin_eql, bin_neq, bin_lss, bin_leq, bin_gtr, bin_geq, bin_shl, bin_shr, bin_bools, bin_strs, bin_ptrs, bin_slices, bin_aggs, ↓Option.bind_some, ↓Option.map_some, ↓cond_true, ↓cond_false, evC, evOp, XO.lit, setArgs, Tr.get_set, Option.bind_some, Option.map_some, cond_true, cond_false, maxI, maxFrom, minI, minFrom, aConv, aBinE, aEq, eqScal, aUn, evRes, fin, oneOf, if_true, if_false, callee, reduceCtorEq, Nat.reduceEqDiff, and_self, decide_true, decide_false, beq_true, beq_false, Bool.not_true, Bool.not_false, List.getElem?_cons_zero, List.getElem?_cons_succ, beq_self_eq_true, gt_iff_lt, ble_dec, beq_dec, List.head?_cons, AV.undef, eq_self, ne_eq, not_true_eq_false, not_false_eq_true, Int.reduceLT, Int.reduceLE, Int.reduceToNat, Int.reduceEq, Int.reduceNeg, Nat.reduceAdd, Nat.reduceLT, Nat.reduceLeDiff, Nat.reduceMul, Nat.reduceSub, AV.cells, AV.tup, Bool.true_and, true_and, and_true, List.drop_nil, List.append_nil, rd_put, rd_alloc, rdO, St.get_put, St.get_alloc, St.next_put, St.next_alloc, St.wr, Bool.and_self, Bool.and_true, List.length_cons, List.length_nil, List.take_succ_cons, List.take_zero, List.drop_succ_cons, List.drop_zero, List.cons_append, List.nil_append, Nat.zero_add, Nat.add_zero, Nat.reduceMul, aFill, evParts, rep, List.replicate_succ, List.replicate_zero, List.flatten_cons, List.flatten_nil, List.append_nil, newSl, newVar, c6, t17, t18, t19, hm, hix, hz]
    refine .while (I2 a z 0 pa (some (o, v, p)) (some (S.next, 0, 0)) S i m) id 6 ?_ (by show 6 < k + 999; omega) fun n2 T2 S2 h2 => (roundA k a z 0 pa _ _ _ i m n2 T2 S2 h2).mono ?_
    · refine ⟨.alloc _ _, ?_, ?_, ?_, ?_, ?_, ?_, ?_, ?_, ?_, ?_, Sl.lit S _ 6 [.int .u32] (by decide) rfl (by rfl), 0, ?_, by decide, by decide, rfl⟩ <;>
      simp only [Tr.get_set, Nat.reduceEqDiff, if_false, if_true, t11, t12, t13, t2, t17, t18, t19]
    · intro r T' S' hr
      cases r with
      | normal => exact hr
      | ret => exact absurd hr.1 (by intro h; cases h)
      | exit id =>
        obtain ⟨hid, n', he', t11, t12, t13, t2, t17, t18, t19, t4, t23, t24, sc, _⟩ := hr
        cases hid
        simp -implicitDefEqProofs -dsimp (maxSteps := 10000000) only [↓goes_loop, ↓goes_seq, ↓goes_reg, ↓goes_dreg, ↓goes_cond, ↓goes_block, ↓goes_skip, ↓goes_exit, ↓goes_ret, after_some, br_true, br_false, ↓then_normal, ↓then_exit, ↓then_ret, ↓blk_normal, ↓blk_exit, ↓blk_ret, ↓blk_other, ops_nil, ops_some, ops_none, oper_none, oper_some, gd_tt, gd_ff, gd_tf, gd_ft, ↓any_op, ↓any_call, ↓any_callV, ↓any_invoke, xo_t, xo_c, args_nil, args_cons, bin_add, bin_sub, bin_mul, bin_quo, bin_rem, bin_and, bin_or, bin_xor, bin_andNot, bin_eql, bin_neq, bin_lss, bin_leq, bin_gtr, bin_geq, bin_shl, bin_shr, bin_bools, bin_strs, bin_ptrs, bin_slices, bin_aggs, ↓Option.bind_some, ↓Option.map_some, ↓cond_true, ↓cond_false, evC, evOp, XO.lit, setArgs, Tr.get_set, Option.bind_some, Option.map_some, cond_true, cond_false, maxI, maxFrom, minI, minFrom, aConv, aBinE, aEq, eqScal, aUn, evRes, fin, oneOf, if_true, if_false, callee, reduceCtorEq, Nat.reduceEqDiff, and_self, decide_true, decide_false, beq_true, beq_false, Bool.not_true, Bool.not_false, List.getElem?_cons_zero, List.getElem?_cons_succ, beq_self_eq_true, gt_iff_lt, ble_dec, beq_dec, List.head?_cons, AV.undef, eq_self, ne_eq, not_true_eq_false, not_false_eq_true, Int.reduceLT, Int.reduceLE, Int.reduceToNat, Int.reduceEq, Int.reduceNeg, Nat.reduceAdd, Nat.reduceLT, Nat.reduceLeDiff, Nat.reduceMul, Nat.reduceSub, AV.cells, AV.tup, Bool.true_and, true_and, and_true, List.drop_nil, List.append_nil, rd_put, rd_alloc, rdO, St.get_put, St.get_alloc, St.next_put, St.next_alloc, St.wr, Bool.and_self, Bool.and_true, List.length_cons, List.length_nil, List.take_succ_cons, List.take_zero, List.drop_succ_cons, List.drop_zero, List.cons_append, List.nil_append, Nat.zero_add, Nat.add_zero, Nat.reduceMul, t19, w]
        refine ⟨n - 1, ⟨he.trans he', ?_, ?_, ?_, ?_, ?_, ?_, sb.ext he', m + 1, ?_, by omega, by omega, by omega⟩, by simp only [_root_.id]; omega⟩
        all_goals simp only [Tr.get_set, Nat.reduceEqDiff, if_false, if_true, t11, t12, t13, t2, t17, t18]
  · simp -implicitDefEqProofs -dsimp (maxSteps := 10000000) only [af3_l3, ↓goes_loop, ↓goes_seq, ↓goes_reg, ↓goes_dreg, ↓goes_cond, ↓goes_block, ↓goes_skip, ↓goes_exit, ↓goes_ret, after_some, br_true, br_false, ↓then_normal, ↓then_exit, ↓then_ret, ↓blk_normal, ↓blk_exit, ↓blk_ret, ↓blk_other, ops_nil, ops_some, ops_none, oper_none, oper_some, gd_tt, gd_ff, gd_tf, gd_ft, ↓any_op, ↓any_call, ↓any_callV, ↓any_invoke, xo_t, xo_c, args_nil, args_cons, bin_add, bin_sub, bin_mul, bin_quo, bin_rem, bin_and, bin_or, bin_xor, bin_andNot, bin_eql, bin_neq, bin_lss, bin_leq, bin_gtr, bin_geq, bin_shl, bin_shr, bin_bools, bin_strs, bin_ptrs, bin_slices, bin_aggs, ↓Option.bind_some, ↓Option.map_some, ↓cond_true, ↓cond_false, evC, evOp, XO.lit, setArgs, Tr.get_set, Option.bind_some, Option.map_some, cond_true, cond_false, maxI, maxFrom, minI, minFrom, aConv, aBinE, aEq, eqScal, aUn, evRes, fin, oneOf, if_true, if_false, callee, reduceCtorEq, Nat.reduceEqDiff, and_self, decide_true, decide_false, beq_true, beq_false, Bool.not_true, Bool.not_false, List.getElem?_cons_zero, List.getElem?_cons_succ, beq_self_eq_true, gt_iff_lt, ble_dec, beq_dec, List.head?_cons, AV.undef, eq_self, ne_eq, not_true_eq_false, not_false_eq_true, Int.reduceLT, Int.reduceLE, Int.reduceToNat, Int.reduceEq, Int.reduceNeg, Nat.reduceAdd, Nat.reduceLT, Nat.reduceLeDiff, Nat.reduceMul, Nat.reduceSub, AV.cells, AV.tup, Bool.true_and, true_and, and_true, List.drop_nil, List.append_nil, rd_put, rd_alloc, rdO, St.get_put, St.get_alloc, St.next_put, St.next_alloc, St.wr, Bool.and_self, Bool.and_true, List.length_cons, List.length_nil, List.take_succ_cons, List.take_zero, List.drop_succ_cons, List.drop_zero, List.cons_append, List.nil_append, Nat.zero_add, Nat.add_zero, Nat.reduceMul, t18, t19, hm]
    refine ⟨n, he, ?_, ?_, ?_, ?_, ?_, ?_, sb, m, ?_, m0, m1, hn⟩ <;>
      simp only [Tr.get_set, Nat.reduceEqDiff, if_false, if_true, t11, t12, t13, t2, t17, t18, t19]
set_option maxHeartbeats 4000000 in
theorem roundC (k : Nat) (pa : Option (Nat × Nat × Nat)) (n : Nat) (T : Tm) (S : St) (h : I4' pa n T S) :
    Goes (evF X6 AP (k + 999)) (k + 999) af3_l4 T S (Then (fun T' S' => ∃ n', I4' pa n' T' S' ∧ id n' < id n) fun r T' S' => r = .exit 0) := by
  obtain ⟨t11, t12, sa, m, t13, m0, m1, hn⟩ := h
  by_cases hm : m < 16
  · obtain ⟨o, v, p, rfl, ho⟩ := sa.at_ (by decide)
    obtain ⟨z, hz, wz⟩ := sa.int m0 (by rw [c16]; exact hm)
    have w : IntKind.i64.wrap (m + 1) = m + 1 := w64_id (by omega) (by omega)
    have hix : ixOf (.int .i64 m) 16 = some m.toNat := ix_ok m0 (by rw [c16]; exact hm)
    simp -implicitDefEqProofs -dsimp (maxSteps := 10000000) only [af3_l4, ↓goes_loop, ↓goes_seq, ↓goes_reg, ↓goes_dreg, ↓goes_cond, ↓goes_block, ↓goes_skip, ↓goes_exit, ↓goes_ret, after_some, br_true, br_false, ↓then_normal, ↓then_exit, ↓then_ret, ↓blk_normal, ↓blk_exit, ↓blk_ret, ↓blk_other, ops_nil, ops_some, ops_none, oper_none, oper_some, gd_tt, gd_ff, gd_tf, gd_ft, ↓any_op, ↓any_call, ↓any_callV, ↓any_invoke, xo_t, xo_c, args_nil, args_cons, bin_add, bin_sub, bin_mul, bin_quo, bin_rem, bin_and, bin_or, bin_xor, bin_andNot, bin_eql, bin_neq, bin_lss, bin_leq, bin_gtr, bin_geq, bin_shl, bin_shr, bin_bools, bin_strs, bin_ptrs, bin_slices, bin_aggs, ↓Option.bind_some, ↓Option.map_some, ↓cond_true, ↓cond_false, evC, evOp, XO.lit, setArgs, Tr.get_set, Option.bind_some, Option.map_some, cond_true, cond_false, maxI, maxFrom, minI, minFrom, aConv, aBinE, aEq, eqScal, aUn, evRes, fin, oneOf, if_true, if_false, callee, reduceCtorEq, Nat.reduceEqDiff, and_self, decide_true, decide_false, beq_true, beq_false, Bool.not_true, Bool.not_false, List.getElem?_cons_zero, List.getElem?_cons_succ, beq_self_eq_true, gt_iff_lt, ble_dec, beq_dec, List.head?_cons, AV.undef, eq_self, ne_eq, not_true_eq_false, not_false_eq_true, Int.reduceLT, Int.reduceLE, Int.reduceToNat, Int.reduceEq, Int.reduceNeg, Nat.reduceAdd, Nat.reduceLT, Nat.reduceLeDiff, Nat.reduceMul, Nat.reduceSub, AV.cells, AV.tup, Bool.true_and, true_and, and_true, List.drop_nil, List.append_nil, rd_put, rd_alloc, rdO, St.get_put, St.get_alloc, St.next_put, St.next_alloc, St.wr, Bool.and_self, Bool.and_true, List.length_cons, List.length_nil, List.take_succ_cons, List.take_zero, List.drop_succ_cons, List.drop_zero, List.cons_append, List.nil_append, Nat.zero_add, Nat.add_zero, Nat.reduceMul, aFill, evParts, rep, List.replicate_succ, List.replicate_zero, List.flatten_cons, List.flatten_nil, List.append_nil, newSl, newVar, c6, t11, t12, t13, hm, hix, hz]
    refine .while (I3 z (some (o, v, p)) (some (S.next, 0, 0)) S m) id 6 ?_ (by show 6 < k + 999; omega) fun n2 T2 S2 h2 => (roundB k z _ _ _ m n2 T2 S2 h2).mono ?_
    · refine ⟨.alloc _ _, ?_, ?_, ?_, ?_, ?_, ?_, Sl.lit S _ 6 [.int .u16] (by decide) rfl (by rfl), 0, ?_, by decide, by decide, rfl⟩ <;>
      simp only [Tr.get_set, Nat.reduceEqDiff, if_false, if_true, t11, t12, t13]
    · intro r T' S' hr
      cases r with
      | normal => exact hr
      | ret => exact absurd hr.1 (by intro h; cases h)
      | exit id =>
        obtain ⟨hid, n', he', t11, t12, t13, t2, t17, t18, sb, _⟩ := hr
        cases hid
        simp -implicitDefEqProofs -dsimp (maxSteps := 10000000) only [↓goes_loop, ↓goes_seq, ↓goes_reg, ↓goes_dreg, ↓goes_cond, ↓goes_block, ↓goes_skip, ↓goes_exit, ↓goes_ret, after_some, br_true, br_false, ↓then_normal, ↓then_exit, ↓then_ret, ↓blk_normal, ↓blk_exit, ↓blk_ret, ↓blk_other, ops_nil, ops_some, ops_none, oper_none, oper_some, gd_tt, gd_ff, gd_tf, gd_ft, ↓any_op, ↓any_call, ↓any_callV, ↓any_invoke, xo_t, xo_c, args_nil, args_cons, bin_add, bin_sub, bin_mul, bin_quo, bin_rem, bin_and, bin_or, bin_xor, bin_andNot, bin_eql, bin_neq, bin_lss, bin_leq, bin_gtr, bin_geq, bin_shl, bin_shr, bin_bools, bin_strs, bin_ptrs, bin_slices, bin_aggs, ↓Option.bind_some, ↓Option.map_some, ↓cond_true, ↓cond_false, evC, evOp, XO.lit, setArgs, Tr.get_set, Option.bind_some, Option.map_some, cond_true, cond_false, maxI, maxFrom, minI, minFrom, aConv, aBinE, aEq, eqScal, aUn, evRes, fin, oneOf, if_true, if_false, callee, reduceCtorEq, Nat.reduceEqDiff, and_self, decide_true, decide_false, beq_true, beq_false, Bool.not_true, Bool.not_false, List.getElem?_cons_zero, List.getElem?_cons_succ, beq_self_eq_true, gt_iff_lt, ble_dec, beq_dec, List.head?_cons, AV.undef, eq_self, ne_eq, not_true_eq_false, not_false_eq_true, Int.reduceLT, Int.reduceLE, Int.reduceToNat, Int.reduceEq, Int.reduceNeg, Nat.reduceAdd, Nat.reduceLT, Nat.reduceLeDiff, Nat.reduceMul, Nat.reduceSub, AV.cells, AV.tup, Bool.true_and, true_and, and_true, List.drop_nil, List.append_nil, rd_put, rd_alloc, rdO, St.get_put, St.get_alloc, St.next_put, St.next_alloc, St.wr, Bool.and_self, Bool.and_true, List.length_cons, List.length_nil, List.take_succ_cons, List.take_zero, List.drop_succ_cons, List.drop_zero, List.cons_append, List.nil_append, Nat.zero_add, Nat.add_zero, Nat.reduceMul, t13, w]
        refine ⟨n - 1, ⟨?_, ?_, sa.ext he', m + 1, ?_, by omega, by omega, by omega⟩, by simp only [_root_.id]; omega⟩
        all_goals simp only [Tr.get_set, Nat.reduceEqDiff, if_false, if_true, t11, t12]
  · simp -implicitDefEqProofs -dsimp (maxSteps := 10000000) only [af3_l4, ↓goes_loop, ↓goes_seq, ↓goes_reg, ↓goes_dreg, ↓goes_cond, ↓goes_block, ↓goes_skip, ↓goes_exit, ↓goes_ret, after_some, br_true, br_false, ↓then_normal, ↓then_exit, ↓then_ret, ↓blk_normal, ↓blk_exit, ↓blk_ret, ↓blk_other, ops_nil, ops_some, ops_none, oper_none, oper_some, gd_tt, gd_ff, gd_tf, gd_ft, ↓any_op, ↓any_call, ↓any_callV, ↓any_invoke, xo_t, xo_c, args_nil, args_cons, bin_add, bin_sub, bin_mul, bin_quo, bin_rem, bin_and, bin_or, bin_xor, bin_andNot, bin_eql, bin_neq, bin_lss, bin_leq, bin_gtr, bin_geq, bin_shl, bin_shr, bin_bools, bin_strs, bin_ptrs, bin_slices, bin_aggs, ↓Option.bind_some, ↓Option.map_some, ↓cond_true, ↓cond_false, evC, evOp, XO.lit, setArgs, Tr.get_set, Option.bind_some, Option.map_some, cond_true, cond_false, maxI, maxFrom, minI, minFrom, aConv, aBinE, aEq, eqScal, aUn, evRes, fin, oneOf, if_true, if_false, callee, reduceCtorEq, Nat.reduceEqDiff, and_self, decide_true, decide_false, beq_true, beq_false, Bool.not_true, Bool.not_false, List.getElem?_cons_zero, List.getElem?_cons_succ, beq_self_eq_true, gt_iff_lt, ble_dec, beq_dec, List.head?_cons, AV.undef, eq_self, ne_eq, not_true_eq_false, not_false_eq_true, Int.reduceLT, Int.reduceLE, Int.reduceToNat, Int.reduceEq, Int.reduceNeg, Nat.reduceAdd, Nat.reduceLT, Nat.reduceLeDiff, Nat.reduceMul, Nat.reduceSub, AV.cells, AV.tup, Bool.true_and, true_and, and_true, List.drop_nil, List.append_nil, rd_put, rd_alloc, rdO, St.get_put, St.get_alloc, St.next_put, St.next_alloc, St.wr, Bool.and_self, Bool.and_true, List.length_cons, List.length_nil, List.take_succ_cons, List.take_zero, List.drop_succ_cons, List.drop_zero, List.cons_append, List.nil_append, Nat.zero_add, Nat.add_zero, Nat.reduceMul, t12, t13, hm]
end Go.Proofs.YtanloaedpalblaaA
