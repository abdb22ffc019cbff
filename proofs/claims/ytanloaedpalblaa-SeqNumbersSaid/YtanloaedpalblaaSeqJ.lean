/- Chapter 15: the closed sentence. -/
import Derived.Test.YtanloaedpalblaaSeqI
set_option linter.unusedVariables false
set_option linter.unusedSimpArgs false
set_option maxRecDepth 10000
namespace Go.Proofs.YtanloaedpalblaaA
open Go.RowKit
attribute [local congr] bind_congr1 map_congr1 cond_congr1 withX_congr after_congr br_congr gd_congr

structure J0 (kk : Int) (n : Nat) (T : Tm) (S : St) : Prop where
  t7 : T.get 7 = some (.int .i64 kk)
  more : ∃ (i at_ : Int) (q : Option (Nat × Nat × Nat)) (e : Nat) (c : List AV), T.get 10 = some (.int .i64 i) ∧ T.get 9 = some (.int .i64 at_) ∧ T.get 8 = some (.slice q i.toNat e none) ∧ Vec S q i.toNat 1 e c ∧
    (∀ j, j < i.toNat → Scs [.int .u16] ((c.drop (j * 1)).take 1)) ∧ 0 ≤ i ∧ i ≤ 150 ∧ (n : Int) = 150 - i ∧ 65400 - 64 * i ≤ at_ ∧ at_ ≤ 65400 + 64 * i
structure J1 (n : Nat) (T : Tm) (S : St) : Prop where
  more : ∃ k : Int, T.get 7 = some (.int .i64 k) ∧ 0 ≤ k ∧ k ≤ 60 ∧ (n : Int) = 60 - k
def ten (k : Int) : List AV := [.int .i64 1, .int .i64 1, .int .i64 3, .int .i64 (-2), .int .i64 1, .int .i64 0, .int .i64 k, .int .i64 (0 - k), .int .i64 64, .int .i64 (-63)]
theorem ten_rd {k x : Int} (k0 : 0 ≤ k) (k1 : k < 60) (x0 : 0 ≤ x) (x1 : x < 10) : ∃ z, rdO (.cells (ten k) 0 0 true) 0 (0 + x.toNat * 1) 1 = some [.int .i64 z] ∧ -64 ≤ z ∧ z ≤ 64 := by
  have : ∀ j : Nat, j < 10 → ∃ z, rdO (.cells (ten k) 0 0 true) 0 (0 + j * 1) 1 = some [.int .i64 z] ∧ -64 ≤ z ∧ z ≤ 64 := by
    intro j hj
    match j, hj with
    | 0, _ | 1, _ | 2, _ | 3, _ | 4, _ | 5, _ | 6, _ | 7, _ | 8, _ | 9, _ => exact ⟨_, rfl, by omega, by omega⟩
  exact this x.toNat (by omega)
set_option maxHeartbeats 4000000 in
theorem roundD (k : Nat) (kk : Int) (k0 : 0 ≤ kk) (k1 : kk < 60) (n : Nat) (T : Tm) (S : St) (h : J0 kk n T S) :
    Goes (evF X6 AP (k + 999)) (k + 999) af3_l0 T S (Then (fun T' S' => ∃ n', J0 kk n' T' S' ∧ id n' < id n) fun r T' S' => r = .exit 8 ∧ ∃ n', J0 kk n' T' S') := by
  have h' := h
  obtain ⟨t7, i, at_, q, e, c, t10, t9, t8, hv, hsc, i0, i1, hn, a0, a1⟩ := h
  by_cases c1 : i < 150
  · have hi2 : 0 ≤ i * i := Int.mul_nonneg i0 i0
    have hi3 : i * i ≤ 150 * i := Int.mul_le_mul_of_nonneg_right (by omega) i0
    have w1 : IntKind.i64.wrap (i * i) = i * i := w64_id (by omega) (by omega)
    have w2 : IntKind.i64.wrap (i * i + kk) = i * i + kk := w64_id (by omega) (by omega)
    have hmd : Int.tmod (i * i + kk) 10 = (i * i + kk) % 10 := Int.tmod_eq_emod_of_nonneg (by omega)
    obtain ⟨x, hx⟩ : ∃ x, (i * i + kk) % 10 = x := ⟨_, rfl⟩
    have x0 : 0 ≤ x := by omega
    have x1 : x < 10 := by omega
    have hix : ixOf (.int .i64 x) 10 = some x.toNat := ix_ok x0 (by rw [c10]; exact x1)
    obtain ⟨z, hz, z0, z1⟩ := ten_rd k0 k1 x0 x1
    have wn : IntKind.i64.wrap (0 - kk) = 0 - kk := w64_id (by omega) (by omega)
    have w3 : IntKind.i64.wrap (at_ + z) = at_ + z := w64_id (by omega) (by omega)
    have w4 : IntKind.i64.wrap (i + 1) = i + 1 := w64_id (by omega) (by omega)
    have h10 : ¬ ((10 : Int) = 0) := by decide
    obtain ⟨y, hy⟩ : ∃ y, at_ + z = y := ⟨_, rfl⟩
    rw [hy] at w3
    have hrd1 : ∀ v i m, (S.alloc (.cells (ten kk) 0 0 true)).rd S.next v i m = rdO (.cells (ten kk) 0 0 true) v i m := fun v i m => by rw [rd_alloc, if_pos rfl]
    have hz' : (S.alloc (.cells (ten kk) 0 0 true)).rd S.next 0 (0 + x.toNat * 1) 1 = some [.int .i64 z] := by rw [hrd1]; exact hz
    have hsx : Scs [.int .u16] [.int .u16 (y % 65536)] := ⟨⟨rfl, mk_u16 (by omega) (by omega)⟩, trivial⟩
    have hve : Vec ((S.alloc (.cells (ten kk) 0 0 true)).alloc (.cells [.int .u16 (y % 65536)] 0 0 true)) q i.toNat 1 e c := hv.ext ((Ext.alloc _ _).then_alloc _)
    obtain ⟨q', S2, hap, hv2, hg2, hq2⟩ := hve.append (bytes := 2) (xs := [.int .u16 (y % 65536)]) (n := 1) rfl (by decide) (by omega)
    unfold ten at hz' hap
    simp -implicitDefEqProofs -dsimp (maxSteps := 10000000) only [Nat.zero_add] at hz'
    simp -implicitDefEqProofs -dsimp (maxSteps := 10000000) only [af3_l0, ↓goes_loop, ↓goes_seq, ↓goes_reg, ↓goes_dreg, ↓goes_cond, ↓goes_block, ↓goes_skip, ↓goes_exit, ↓goes_ret, after_some, br_true, br_false, ↓then_normal, ↓then_exit, ↓then_ret, ↓blk_normal, ↓blk_exit, ↓blk_ret, ↓blk_other, ops_nil, ops_some, ops_none, oper_none, oper_some, gd_tt, gd_ff, gd_tf, gd_ft, ↓any_op, ↓any_call, ↓any_callV, ↓any_invoke, xo_t, xo_c, args_nil, args_cons, bin_add, bin_sub, bin_mul, bin_quo, bin_rem, bin_and, bin_or, bin_xor, bin_andNot, bin_eql, bin_neq, bin_lss, bin_leq, bin_gtr, bin_geq, bin_shl, bin_shr, bin_bools, bin_strs, bin_ptrs, bin_slices, bin_aggs, ↓Option.bind_some, ↓Option.map_some, ↓cond_true, ↓cond_false, evC, evOp, XO.lit, setArgs, Tr.get_set, Option.bind_some, Option.map_some, cond_true, cond_false, maxI, maxFrom, minI, minFrom, aConv, aBinE, aEq, eqScal, aUn, evRes, fin, oneOf, if_true, if_false, callee, reduceCtorEq, Nat.reduceEqDiff, and_self, decide_true, decide_false, beq_true, beq_false, Bool.not_true, Bool.not_false, List.getElem?_cons_zero, List.getElem?_cons_succ, beq_self_eq_true, gt_iff_lt, ble_dec, beq_dec, List.head?_cons, AV.undef, eq_self, ne_eq, not_true_eq_false, not_false_eq_true, Int.reduceLT, Int.reduceLE, Int.reduceToNat, Int.reduceEq, Int.reduceNeg, Nat.reduceAdd, Nat.reduceLT, Nat.reduceLeDiff, Nat.reduceMul, Nat.reduceSub, AV.cells, AV.tup, Bool.true_and, true_and, and_true, List.drop_nil, List.append_nil, rd_put, rd_alloc, rdO, St.get_put, St.get_alloc, St.next_put, St.next_alloc, St.wr, Bool.and_self, Bool.and_true, List.length_cons, List.length_nil, List.take_succ_cons, List.take_zero, List.drop_succ_cons, List.drop_zero, List.cons_append, List.nil_append, Nat.zero_add, Nat.add_zero, Nat.reduceMul, aFill, evParts, rep, List.replicate_succ, List.replicate_zero, List.flatten_cons, List.flatten_nil, List.append_nil, newSl, newVar, t7, t8, t9, t10, c1, w1, w2, wn, w3, w4, hy, hmd, hx, h10, hix, hz', wrap_u16, hap]
    have e1 : (i + 1).toNat = i.toNat + 1 := by omega
    refine ⟨n - 1, ⟨?_, i + 1, y, q', 1, c ++ [.int .u16 (y % 65536)], ?_, ?_, ?_, ?_, ?_, by omega, by omega, by omega, by omega, by omega⟩, by simp only [id]; omega⟩
    · simp only [Tr.get_set, Nat.reduceEqDiff, if_false, if_true, t7]
    · simp only [Tr.get_set, Nat.reduceEqDiff, if_false, if_true]
    · simp only [Tr.get_set, Nat.reduceEqDiff, if_false, if_true]
    · simp only [Tr.get_set, Nat.reduceEqDiff, if_false, if_true, e1]
    · rw [e1]; exact hv2
    · rw [e1]; exact Scs_snoc (ks := [.int .u16]) hv.sz hsc hsx
  · simp -implicitDefEqProofs -dsimp (maxSteps := 10000000) only [af3_l0, ↓goes_loop, ↓goes_seq, ↓goes_reg, ↓goes_dreg, ↓goes_cond, ↓goes_block, ↓goes_skip, ↓goes_exit, ↓goes_ret, after_some, br_true, br_false, ↓then_normal, ↓then_exit, ↓then_ret, ↓blk_normal, ↓blk_exit, ↓blk_ret, ↓blk_other, ops_nil, ops_some, ops_none, oper_none, oper_some, gd_tt, gd_ff, gd_tf, gd_ft, ↓any_op, ↓any_call, ↓any_callV, ↓any_invoke, xo_t, xo_c, args_nil, args_cons, bin_add, bin_sub, bin_mul, bin_quo, bin_rem, bin_and, bin_or, bin_xor, bin_andNot, bin_eql, bin_neq, bin_lss, bin_leq, bin_gtr, bin_geq, bin_shl, bin_shr, bin_bools, bin_strs, bin_ptrs, bin_slices, bin_aggs, ↓Option.bind_some, ↓Option.map_some, ↓cond_true, ↓cond_false, evC, evOp, XO.lit, setArgs, Tr.get_set, Option.bind_some, Option.map_some, cond_true, cond_false, maxI, maxFrom, minI, minFrom, aConv, aBinE, aEq, eqScal, aUn, evRes, fin, oneOf, if_true, if_false, callee, reduceCtorEq, Nat.reduceEqDiff, and_self, decide_true, decide_false, beq_true, beq_false, Bool.not_true, Bool.not_false, List.getElem?_cons_zero, List.getElem?_cons_succ, beq_self_eq_true, gt_iff_lt, ble_dec, beq_dec, List.head?_cons, AV.undef, eq_self, ne_eq, not_true_eq_false, not_false_eq_true, Int.reduceLT, Int.reduceLE, Int.reduceToNat, Int.reduceEq, Int.reduceNeg, Nat.reduceAdd, Nat.reduceLT, Nat.reduceLeDiff, Nat.reduceMul, Nat.reduceSub, AV.cells, AV.tup, Bool.true_and, true_and, and_true, List.drop_nil, List.append_nil, rd_put, rd_alloc, rdO, St.get_put, St.get_alloc, St.next_put, St.next_alloc, St.wr, Bool.and_self, Bool.and_true, List.length_cons, List.length_nil, List.take_succ_cons, List.take_zero, List.drop_succ_cons, List.drop_zero, List.cons_append, List.nil_append, Nat.zero_add, Nat.add_zero, Nat.reduceMul, t10, c1]
    refine ⟨n, ?_, i, at_, q, e, c, ?_, ?_, ?_, hv, hsc, i0, i1, hn, a0, a1⟩ <;>
      simp only [Tr.get_set, Nat.reduceEqDiff, if_false, if_true, t7, t8, t9, t10]
set_option maxHeartbeats 4000000 in
theorem roundE (k : Nat) (n : Nat) (T : Tm) (S : St) (h : J1 n T S) :
    Goes (evF X6 AP (k + 999)) (k + 999) af3_l1 T S (Then (fun T' S' => ∃ n', J1 n' T' S' ∧ id n' < id n) fun r T' S' => r = .exit 6) := by
  obtain ⟨kk, t7, k0, k1, hn⟩ := h
  by_cases c1 : kk < 60
  · have w1 : IntKind.i64.wrap (kk + 1) = kk + 1 := w64_id (by omega) (by omega)
    simp -implicitDefEqProofs -dsimp (maxSteps := 10000000) only [af3_l1, ↓goes_loop, ↓goes_seq, ↓goes_reg, ↓goes_dreg, ↓goes_cond, ↓goes_block, ↓goes_skip, ↓goes_exit, ↓goes_ret, after_some, br_true, br_false, ↓then_normal, ↓then_exit, ↓then_ret, ↓blk_normal, ↓blk_exit, ↓blk_ret, ↓blk_other, ops_nil, ops_some, ops_none, oper_none, oper_some, gd_tt, gd_ff, gd_tf, gd_ft, ↓any_op, ↓any_call, ↓any_callV, ↓any_invoke, xo_t, xo_c, args_nil, args_cons, bin_add, bin_sub, bin_mul, bin_quo, bin_rem, bin_and, bin_or, bin_xor, bin_andNot, bin_eql, bin_neq, bin_lss, bin_leq, bin_gtr, bin_geq, bin_shl, bin_shr, bin_bools, bin_strs, bin_ptrs, bin_slices, bin_aggs, ↓Option.bind_some, ↓Option.map_some, ↓cond_true, ↓cond_false, evC, evOp, XO.lit, setArgs, Tr.get_set, Option.bind_some, Option.map_some, cond_true, cond_false, maxI, maxFrom, minI, minFrom, aConv, aBinE, aEq, eqScal, aUn, evRes, fin, oneOf, if_true, if_false, callee, reduceCtorEq, Nat.reduceEqDiff, and_self, decide_true, decide_false, beq_true, beq_false, Bool.not_true, Bool.not_false, List.getElem?_cons_zero, List.getElem?_cons_succ, beq_self_eq_true, gt_iff_lt, ble_dec, beq_dec, List.head?_cons, AV.undef, eq_self, ne_eq, not_true_eq_false, not_false_eq_true, Int.reduceLT, Int.reduceLE, Int.reduceToNat, Int.reduceEq, Int.reduceNeg, Nat.reduceAdd, Nat.reduceLT, Nat.reduceLeDiff, Nat.reduceMul, Nat.reduceSub, AV.cells, AV.tup, Bool.true_and, true_and, and_true, List.drop_nil, List.append_nil, rd_put, rd_alloc, rdO, St.get_put, St.get_alloc, St.next_put, St.next_alloc, St.wr, Bool.and_self, Bool.and_true, List.length_cons, List.length_nil, List.take_succ_cons, List.take_zero, List.drop_succ_cons, List.drop_zero, List.cons_append, List.nil_append, Nat.zero_add, Nat.add_zero, Nat.reduceMul, t7, c1]
    refine .while (J0 kk) id 150 ?_ (by show 150 < k + 999; omega) fun n2 T2 S2 h2 => (roundD k kk k0 c1 n2 T2 S2 h2).mono ?_
    · refine ⟨?_, 0, 65400, none, 0, [], ?_, ?_, ?_, .nil _ _ _, fun j hj => absurd hj (Nat.not_lt_zero _), by decide, by decide, rfl, by decide, by decide⟩
      · simp only [Tr.get_set, Nat.reduceEqDiff, if_false, if_true, t7]
      · simp only [Tr.get_set, Nat.reduceEqDiff, if_false, if_true]
      · simp only [Tr.get_set, Nat.reduceEqDiff, if_false, if_true]
      · simp only [Tr.get_set, Nat.reduceEqDiff, if_false, if_true]; rfl
    · intro r T' S' hr
      cases r with
      | normal => exact hr
      | ret => exact absurd hr.1 (by intro h; cases h)
      | exit id =>
        obtain ⟨hid, n', t7, i, at_, q, e, c, t10, t9, t8, hv, hsc, i0, i1, _⟩ := hr
        cases hid
        have hsl : Sl S' q i.toNat [.int .u16] := hv.sl (ks := [.int .u16]) (by omega) hsc
        obtain ⟨S3, h9, e3⟩ := play9 (k := k + 699) hsl hv.ez
        simp -implicitDefEqProofs -dsimp (maxSteps := 10000000) only [↓goes_loop, ↓goes_seq, ↓goes_reg, ↓goes_dreg, ↓goes_cond, ↓goes_block, ↓goes_skip, ↓goes_exit, ↓goes_ret, after_some, br_true, br_false, ↓then_normal, ↓then_exit, ↓then_ret, ↓blk_normal, ↓blk_exit, ↓blk_ret, ↓blk_other, ops_nil, ops_some, ops_none, oper_none, oper_some, gd_tt, gd_ff, gd_tf, gd_ft, ↓any_op, ↓any_call, ↓any_callV, ↓any_invoke, xo_t, xo_c, args_nil, args_cons, bin_add, bin_sub, bin_mul, bin_quo, bin_rem, bin_and, bin_or, bin_xor, bin_andNot, bin_eql, bin_neq, bin_lss, bin_leq, bin_gtr, bin_geq, bin_shl, bin_shr, bin_bools, bin_strs, bin_ptrs, bin_slices, bin_aggs, ↓Option.bind_some, ↓Option.map_some, ↓cond_true, ↓cond_false, evC, evOp, XO.lit, setArgs, Tr.get_set, Option.bind_some, Option.map_some, cond_true, cond_false, maxI, maxFrom, minI, minFrom, aConv, aBinE, aEq, eqScal, aUn, evRes, fin, oneOf, if_true, if_false, callee, reduceCtorEq, Nat.reduceEqDiff, and_self, decide_true, decide_false, beq_true, beq_false, Bool.not_true, Bool.not_false, List.getElem?_cons_zero, List.getElem?_cons_succ, beq_self_eq_true, gt_iff_lt, ble_dec, beq_dec, List.head?_cons, AV.undef, eq_self, ne_eq, not_true_eq_false, not_false_eq_true, Int.reduceLT, Int.reduceLE, Int.reduceToNat, Int.reduceEq, Int.reduceNeg, Nat.reduceAdd, Nat.reduceLT, Nat.reduceLeDiff, Nat.reduceMul, Nat.reduceSub, AV.cells, AV.tup, Bool.true_and, true_and, and_true, List.drop_nil, List.append_nil, rd_put, rd_alloc, rdO, St.get_put, St.get_alloc, St.next_put, St.next_alloc, St.wr, Bool.and_self, Bool.and_true, List.length_cons, List.length_nil, List.take_succ_cons, List.take_zero, List.drop_succ_cons, List.drop_zero, List.cons_append, List.nil_append, Nat.zero_add, Nat.add_zero, Nat.reduceMul, t7, t8, w1, h9]
        refine ⟨n - 1, ⟨kk + 1, ?_, by omega, by omega, by omega⟩, by simp only [_root_.id]; omega⟩
        simp only [Tr.get_set, Nat.reduceEqDiff, if_false, if_true]
  · simp -implicitDefEqProofs -dsimp (maxSteps := 10000000) only [af3_l1, ↓goes_loop, ↓goes_seq, ↓goes_reg, ↓goes_dreg, ↓goes_cond, ↓goes_block, ↓goes_skip, ↓goes_exit, ↓goes_ret, after_some, br_true, br_false, ↓then_normal, ↓then_exit, ↓then_ret, ↓blk_normal, ↓blk_exit, ↓blk_ret, ↓blk_other, ops_nil, ops_some, ops_none, oper_none, oper_some, gd_tt, gd_ff, gd_tf, gd_ft, ↓any_op, ↓any_call, ↓any_callV, ↓any_invoke, xo_t, xo_c, args_nil, args_cons, bin_add, bin_sub, bin_mul, bin_quo, bin_rem, bin_and, bin_or, bin_xor, bin_andNot, bin_eql, bin_neq, bin_lss, bin_leq, bin_gtr, bin_geq, bin_shl, bin_shr, bin_bools, bin_strs, bin_ptrs, bin_slices, bin_aggs, ↓Option.bind_some, ↓Option.map_some, ↓cond_true, ↓cond_false, evC, evOp, XO.lit, setArgs, Tr.get_set, Option.bind_some, Option.map_some, cond_true, cond_false, maxI, maxFrom, minI, minFrom, aConv, aBinE, aEq, eqScal, aUn, evRes, fin, oneOf, if_true, if_false, callee, reduceCtorEq, Nat.reduceEqDiff, and_self, decide_true, decide_false, beq_true, beq_false, Bool.not_true, Bool.not_false, List.getElem?_cons_zero, List.getElem?_cons_succ, beq_self_eq_true, gt_iff_lt, ble_dec, beq_dec, List.head?_cons, AV.undef, eq_self, ne_eq, not_true_eq_false, not_false_eq_true, Int.reduceLT, Int.reduceLE, Int.reduceToNat, Int.reduceEq, Int.reduceNeg, Nat.reduceAdd, Nat.reduceLT, Nat.reduceLeDiff, Nat.reduceMul, Nat.reduceSub, AV.cells, AV.tup, Bool.true_and, true_and, and_true, List.drop_nil, List.append_nil, rd_put, rd_alloc, rdO, St.get_put, St.get_alloc, St.next_put, St.next_alloc, St.wr, Bool.and_self, Bool.and_true, List.length_cons, List.length_nil, List.take_succ_cons, List.take_zero, List.drop_succ_cons, List.drop_zero, List.cons_append, List.nil_append, Nat.zero_add, Nat.add_zero, Nat.reduceMul, t7, c1]
set_option maxHeartbeats 4000000 in
theorem ev3 (k : Nat) (S : St) : ∃ S', evF X6 AP (k + 1000) 3 [] S = some (.bool true, S') := by
  suffices hs : ∃ v S', evF X6 AP (k + 1000) 3 [] S = some (v, S') ∧ v = .bool true by
    obtain ⟨v, S', h1, rfl⟩ := hs; exact ⟨S', h1⟩
  refine evF_goes (af := af3) (k := k + 999) rfl rfl rfl ?_
  simp -implicitDefEqProofs -dsimp (maxSteps := 10000000) only [af3, ↓goes_loop, ↓goes_seq, ↓goes_reg, ↓goes_dreg, ↓goes_cond, ↓goes_block, ↓goes_skip, ↓goes_exit, ↓goes_ret, after_some, br_true, br_false, ↓then_normal, ↓then_exit, ↓then_ret, ↓blk_normal, ↓blk_exit, ↓blk_ret, ↓blk_other, ops_nil, ops_some, ops_none, oper_none, oper_some, gd_tt, gd_ff, gd_tf, gd_ft, ↓any_op, ↓any_call, ↓any_callV, ↓any_invoke, xo_t, xo_c, args_nil, args_cons, bin_add, bin_sub, bin_mul, bin_quo, bin_rem, bin_and, bin_or, bin_xor, bin_andNot, bin_eql, bin_neq, bin_lss, bin_leq, bin_gtr, bin_geq, bin_shl, bin_shr, bin_bools, bin_strs, bin_ptrs, bin_slices, bin_aggs, ↓Option.bind_some, ↓Option.map_some, ↓cond_true, ↓cond_false, evC, evOp, XO.lit, setArgs, Tr.tabG, Tr.tabS, Tr.tabL, Tr.get_lf, Option.bind_some, Option.map_some, cond_true, cond_false, maxI, maxFrom, minI, minFrom, aConv, aBinE, aEq, eqScal, aUn, evRes, fin, oneOf, if_true, if_false, callee, reduceCtorEq, Nat.reduceEqDiff, and_self, decide_true, decide_false, beq_true, beq_false, Bool.not_true, Bool.not_false, List.getElem?_cons_zero, List.getElem?_cons_succ, beq_self_eq_true, gt_iff_lt, ble_dec, beq_dec, List.head?_cons, AV.undef, eq_self, ne_eq, not_true_eq_false, not_false_eq_true, Int.reduceLT, Int.reduceLE, Int.reduceToNat, Int.reduceEq, Int.reduceNeg, Nat.reduceAdd, Nat.reduceLT, Nat.reduceLeDiff, Nat.reduceMul, Nat.reduceSub, AV.cells, AV.tup, Bool.true_and, true_and, and_true, List.drop_nil, List.append_nil, rd_put, rd_alloc, rdO, St.get_put, St.get_alloc, St.next_put, St.next_alloc, St.wr, Bool.and_self, Bool.and_true, List.length_cons, List.length_nil, List.take_succ_cons, List.take_zero, List.drop_succ_cons, List.drop_zero, List.cons_append, List.nil_append, Nat.zero_add, Nat.add_zero, Nat.reduceMul, aFill, evParts, rep, List.replicate_succ, List.replicate_zero, List.flatten_cons, List.flatten_nil, List.append_nil, newSl, newVar, c16]
  refine .while (I4' (some (S.next, 0, 0))) id 16 ?_ (by show 16 < k + 999; omega) fun n2 T2 S2 h2 => (roundC k _ n2 T2 S2 h2).mono ?_
  · exact ⟨rfl, rfl, Sl.lit S _ 16 [.int .i64] (by decide) rfl (by rfl), 0, rfl, by decide, by decide, rfl⟩
  · intro r T' S' hr
    cases r with
    | normal => exact hr
    | ret => exact absurd hr (by intro h; cases h)
    | exit id =>
      cases hr
      simp -implicitDefEqProofs -dsimp (maxSteps := 10000000) only [↓goes_loop, ↓goes_seq, ↓goes_reg, ↓goes_dreg, ↓goes_cond, ↓goes_block, ↓goes_skip, ↓goes_exit, ↓goes_ret, after_some, br_true, br_false, ↓then_normal, ↓then_exit, ↓then_ret, ↓blk_normal, ↓blk_exit, ↓blk_ret, ↓blk_other, ops_nil, ops_some, ops_none, oper_none, oper_some, gd_tt, gd_ff, gd_tf, gd_ft, ↓any_op, ↓any_call, ↓any_callV, ↓any_invoke, xo_t, xo_c, args_nil, args_cons, bin_add, bin_sub, bin_mul, bin_quo, bin_rem, bin_and, bin_or, bin_xor, bin_andNot, bin_eql, bin_neq, bin_lss, bin_leq, bin_gtr, bin_geq, bin_shl, bin_shr, bin_bools, bin_strs, bin_ptrs, bin_slices, bin_aggs, ↓Option.bind_some, ↓Option.map_some, ↓cond_true, ↓cond_false, evC, evOp, XO.lit, setArgs, Tr.get_set, Option.bind_some, Option.map_some, cond_true, cond_false, maxI, maxFrom, minI, minFrom, aConv, aBinE, aEq, eqScal, aUn, evRes, fin, oneOf, if_true, if_false, callee, reduceCtorEq, Nat.reduceEqDiff, and_self, decide_true, decide_false, beq_true, beq_false, Bool.not_true, Bool.not_false, List.getElem?_cons_zero, List.getElem?_cons_succ, beq_self_eq_true, gt_iff_lt, ble_dec, beq_dec, List.head?_cons, AV.undef, eq_self, ne_eq, not_true_eq_false, not_false_eq_true, Int.reduceLT, Int.reduceLE, Int.reduceToNat, Int.reduceEq, Int.reduceNeg, Nat.reduceAdd, Nat.reduceLT, Nat.reduceLeDiff, Nat.reduceMul, Nat.reduceSub, AV.cells, AV.tup, Bool.true_and, true_and, and_true, List.drop_nil, List.append_nil, rd_put, rd_alloc, rdO, St.get_put, St.get_alloc, St.next_put, St.next_alloc, St.wr, Bool.and_self, Bool.and_true, List.length_cons, List.length_nil, List.take_succ_cons, List.take_zero, List.drop_succ_cons, List.drop_zero, List.cons_append, List.nil_append, Nat.zero_add, Nat.add_zero, Nat.reduceMul]
      refine .while J1 _root_.id 60 ⟨0, ?_, by decide, by decide, rfl⟩ (by show 60 < k + 999; omega) fun n2 T2 S2 h2 => (roundE k n2 T2 S2 h2).mono ?_
      · simp only [Tr.get_set, Nat.reduceEqDiff, if_false, if_true]
      · intro r T' S' hr
        cases r with
        | normal => exact hr
        | ret => exact absurd hr (by intro h; cases h)
        | exit id =>
          cases hr
          obtain ⟨S3, h9, e3⟩ := play9 (S := S') (p := none) (len := 0) (e := 0) (k := k + 699) ⟨fun h => absurd rfl h, by decide, fun _ _ _ h => by cases h⟩ (.inl rfl)
          obtain ⟨S4, h9', e4⟩ := play9 (k := k + 699) (Sl.lit S3 [.int .u16 5, .int .u16 69, .int .u16 6, .int .u16 5, .int .u16 70, .int .u16 6] 6 [.int .u16] (by decide) rfl (by rfl)) (.inr rfl)
          simp -implicitDefEqProofs -dsimp (maxSteps := 10000000) only [↓goes_loop, ↓goes_seq, ↓goes_reg, ↓goes_dreg, ↓goes_cond, ↓goes_block, ↓goes_skip, ↓goes_exit, ↓goes_ret, after_some, br_true, br_false, ↓then_normal, ↓then_exit, ↓then_ret, ↓blk_normal, ↓blk_exit, ↓blk_ret, ↓blk_other, ops_nil, ops_some, ops_none, oper_none, oper_some, gd_tt, gd_ff, gd_tf, gd_ft, ↓any_op, ↓any_call, ↓any_callV, ↓any_invoke, xo_t, xo_c, args_nil, args_cons, bin_add, bin_sub, bin_mul, bin_quo, bin_rem, bin_and, bin_or, bin_xor, bin_andNot, bin_eql, bin_neq, bin_lss, bin_leq, bin_gtr, bin_geq, bin_shl, bin_shr, bin_bools, bin_strs, bin_ptrs, bin_slices, bin_aggs, ↓Option.bind_some, ↓Option.map_some, ↓cond_true, ↓cond_false, evC, evOp, XO.lit, setArgs, Tr.get_set, Option.bind_some, Option.map_some, cond_true, cond_false, maxI, maxFrom, minI, minFrom, aConv, aBinE, aEq, eqScal, aUn, evRes, fin, oneOf, if_true, if_false, callee, reduceCtorEq, Nat.reduceEqDiff, and_self, decide_true, decide_false, beq_true, beq_false, Bool.not_true, Bool.not_false, List.getElem?_cons_zero, List.getElem?_cons_succ, beq_self_eq_true, gt_iff_lt, ble_dec, beq_dec, List.head?_cons, AV.undef, eq_self, ne_eq, not_true_eq_false, not_false_eq_true, Int.reduceLT, Int.reduceLE, Int.reduceToNat, Int.reduceEq, Int.reduceNeg, Nat.reduceAdd, Nat.reduceLT, Nat.reduceLeDiff, Nat.reduceMul, Nat.reduceSub, AV.cells, AV.tup, Bool.true_and, true_and, and_true, List.drop_nil, List.append_nil, rd_put, rd_alloc, rdO, St.get_put, St.get_alloc, St.next_put, St.next_alloc, St.wr, Bool.and_self, Bool.and_true, List.length_cons, List.length_nil, List.take_succ_cons, List.take_zero, List.drop_succ_cons, List.drop_zero, List.cons_append, List.nil_append, Nat.zero_add, Nat.add_zero, Nat.reduceMul, aFill, evParts, rep, List.replicate_succ, List.replicate_zero, List.flatten_cons, List.flatten_nil, List.append_nil, newSl, newVar, h9, h9', x6_10]
          exact ⟨_, _, rfl, rfl⟩
theorem law3 : ∃ S', evF X6 AP (0 + 1000) 3 [] S0 = some (.bool true, S') := ev3 0 S0
end Go.Proofs.YtanloaedpalblaaA
