/- Chapter 2: the law of sameness. -/
import Derived.Test.YtihddjacbalekaaRdH
set_option linter.unusedVariables false
set_option linter.unusedSimpArgs false
set_option maxRecDepth 10000
namespace Go.Proofs.YtihddjacbalekaaA
open Go.RowKit
attribute [local congr] bind_congr1 map_congr1 cond_congr1 withX_congr after_congr br_congr gd_congr

set_option maxHeartbeats 8000000 in
theorem main6 (k : Nat) {s t : List Nat} {m : Int} (hs : s.length ≤ 40) (ht : t.length ≤ 1500000) (T : Tm) (S : St) {Q : Ex → Tm → St → Prop} (t16 : T.get 16 = some itp) (t0 : T.get 0 = some (.str s)) (t1 : T.get 1 = some (.str t)) (t2 : T.get 2 = some (.int .u32 m)) (t7 : T.get 7 = some (.str []))
    (hit : S.get 0 = some (.iter s 0))
    (hQ : ∀ T' S', T'.get 0 = some (.str s) → T'.get 1 = some (.str t) → T'.get 7 = some (.str (great m s)) → Q (.exit 0) T' S') : Goes (evF X13 AP (k + 99)) (k + 99) (.loop af6_l0) T S Q := by
  refine .while (IU s t m) id s.length ⟨t16, t0, t1, t2, 0, [], hit, t7, by simp, rfl⟩ (by show s.length < k + 99; omega) fun n2 T2 S2 h2 => (roundU k hs n2 T2 S2 h2).mono ?_
  intro r T' S' hr
  cases r with
  | normal => exact hr
  | ret => exact absurd hr.1 (by intro h; cases h)
  | exit id =>
    obtain ⟨hid, g0, g1, g7⟩ := hr
    cases hid
    exact hQ T' S' g0 g1 g7
theorem calls6 (k : Nat) {u t : List Nat} (m : Int) (hs : u.length ≤ 40) (ht : t.length ≤ 1500000) :
    (∀ S, evF X13 AP (k + 99) 13 [.str u, .str (great m u)] S = some (.bool true, S)) ∧ (∀ S, evF X13 AP (k + 99) 13 [.str (great m u), .str u] S = some (.bool true, S)) ∧
    (∀ S, evF X13 AP (k + 99) 13 [.str u, .str t] S = some (.bool (eqStr (fold u) (fold t)), S)) ∧ (∀ S, evF X13 AP (k + 99) 13 [.str t, .str (great m u)] S = some (.bool (eqStr (fold u) (fold t)), S)) ∧
    (∀ S, evF X13 AP (k + 99) 11 [.str u] S = some (.int .i64 (count u), S)) ∧ (∀ S, evF X13 AP (k + 99) 11 [.str (great m u)] S = some (.int .i64 (count u), S)) ∧
    (∀ S, evF X13 AP (k + 99) 12 [.str u] S = some (.bool (right u), S)) ∧ (∀ S, evF X13 AP (k + 99) 12 [.str (great m u)] S = some (.bool (right u), S)) := by
  have hg : (great m u).length ≤ 2000000 := by
    have := great_len m (Rr 0 u)
    have := Rr_len 0 u
    unfold great
    omega
  refine ⟨fun S => ?_, fun S => ?_, fun S => evF_known (if_pos ⟨by omega, by omega⟩), fun S => ?_, fun S => evF_known (if_pos (by omega)), fun S => ?_, fun S => evF_known (if_pos (by omega)), fun S => ?_⟩
  · have := evF_known (X := X13) (AP := AP) (k := k + 98) (f := 13) (args := [.str u, .str (great m u)]) (S := S) (v := .bool (eqStr (fold u) (fold (great m u)))) (if_pos ⟨by omega, hg⟩)
    rw [fold_great, eqStr_refl] at this; exact this
  · have := evF_known (X := X13) (AP := AP) (k := k + 98) (f := 13) (args := [.str (great m u), .str u]) (S := S) (v := .bool (eqStr (fold (great m u)) (fold u))) (if_pos ⟨hg, by omega⟩)
    rw [fold_great, eqStr_refl] at this; exact this
  · have := evF_known (X := X13) (AP := AP) (k := k + 98) (f := 13) (args := [.str t, .str (great m u)]) (S := S) (v := .bool (eqStr (fold t) (fold (great m u)))) (if_pos ⟨by omega, hg⟩)
    rw [fold_great, eqStr_comm] at this; exact this
  · have := evF_known (X := X13) (AP := AP) (k := k + 98) (f := 11) (args := [.str (great m u)]) (S := S) (v := .int .i64 (count (great m u))) (if_pos hg)
    rw [count_great] at this; exact this
  · have := evF_known (X := X13) (AP := AP) (k := k + 98) (f := 12) (args := [.str (great m u)]) (S := S) (v := .bool (right (great m u))) (if_pos hg)
    rw [right_great] at this; exact this
set_option maxHeartbeats 8000000 in
theorem ev6 (k : Nat) {s t : List Nat} (m : Int) (hs : s.length ≤ 9223372036854775807) (ht : t.length ≤ 1500000) : ∃ S', evF X13 AP (k + 100) 6 [.str s, .str t, .int .u32 m] S0 = some (.bool true, S') := by
  suffices hh : ∃ v S', evF X13 AP (k + 100) 6 [.str s, .str t, .int .u32 m] S0 = some (v, S') ∧ v = .bool true by
    obtain ⟨v, S', h1, rfl⟩ := hh; exact ⟨S', h1⟩
  refine evF_goes (af := af6) (k := k + 99) rfl rfl rfl ?_
  by_cases c1 : (40 : Int) < s.length
  · have p1 : (0 : Int) ≤ 40 ∧ (40 : Int) ≤ s.length := by omega
    have p5 : (Int.toNat 40) = 40 := rfl
    have l1 : (s.take 40).length ≤ 40 := by rw [List.length_take]; omega
    obtain ⟨u, hu⟩ : ∃ u, s.take 40 = u := ⟨_, rfl⟩
    rw [hu] at l1
    obtain ⟨e1, e2, e3, e4, e5, e6, e7, e8⟩ := calls6 k (u := u) (t := t) m l1 ht
    simp -implicitDefEqProofs -dsimp (maxSteps := 10000000) only [af6, ↓goes_loop, ↓goes_seq, ↓goes_reg, ↓goes_dreg, ↓goes_cond, ↓goes_block, ↓goes_skip, ↓goes_exit, ↓goes_ret, after_some, br_true, br_false, ↓then_normal, ↓then_exit, ↓then_ret, ↓blk_normal, ↓blk_exit, ↓blk_ret, ↓blk_other, ops_nil, ops_some, ops_none, oper_none, oper_some, gd_tt, gd_ff, gd_tf, gd_ft, gd_undef, ↓any_op, ↓any_call, ↓any_callV, ↓any_invoke, xo_t, xo_c, args_nil, args_cons, bin_add, bin_sub, bin_mul, bin_quo, bin_rem, bin_and, bin_or, bin_xor, bin_andNot, bin_eql, bin_neq, bin_lss, bin_leq, bin_gtr, bin_geq, bin_shl, bin_shr, bin_bools, bin_strs, bin_ptrs, bin_slices, bin_aggs, ↓Option.bind_some, ↓Option.map_some, ↓cond_true, ↓cond_false, evC, evOp, XO.lit, setArgs, Tr.tabG, Tr.tabS, Tr.tabL, Tr.get_lf, Option.bind_some, Option.map_some, cond_true, cond_false, maxI, maxFrom, minI, minFrom, aConv, aBinE, aEq, eqScal, aUn, evRes, fin, oneOf, if_true, if_false, callee, reduceCtorEq, Nat.reduceEqDiff, and_self, decide_true, decide_false, beq_true, beq_false, Bool.not_true, Bool.not_false, List.getElem?_cons_zero, List.getElem?_cons_succ, beq_self_eq_true, gt_iff_lt, ble_dec, beq_dec, List.head?_cons, AV.undef, eq_self, ne_eq, not_true_eq_false, not_false_eq_true, Int.reduceLT, Int.reduceLE, Int.reduceToNat, Int.reduceEq, Int.reduceNeg, Nat.reduceAdd, Nat.reduceLT, Nat.reduceLeDiff, Nat.reduceMul, Nat.reduceSub, AV.cells, AV.tup, Bool.true_and, true_and, and_true, List.drop_nil, List.append_nil, rd_put, rd_alloc, rdO, St.get_put, St.get_alloc, St.next_put, St.next_alloc, St.wr, Bool.and_self, Bool.and_true, List.length_cons, List.length_nil, List.take_succ_cons, List.take_zero, List.drop_succ_cons, List.drop_zero, List.cons_append, List.nil_append, Nat.zero_add, Nat.add_zero, Nat.reduceMul, hs, c1, aCutStr, bnd, evOpt, p1, p5, hu]
    refine main6 k (m := m) l1 ht _ _ rfl rfl rfl rfl rfl rfl ?_
    intro T' S' g0 g1 g7
    simp -implicitDefEqProofs -dsimp (maxSteps := 10000000) only [↓goes_loop, ↓goes_seq, ↓goes_reg, ↓goes_dreg, ↓goes_cond, ↓goes_block, ↓goes_skip, ↓goes_exit, ↓goes_ret, after_some, br_true, br_false, ↓then_normal, ↓then_exit, ↓then_ret, ↓blk_normal, ↓blk_exit, ↓blk_ret, ↓blk_other, ops_nil, ops_some, ops_none, oper_none, oper_some, gd_tt, gd_ff, gd_tf, gd_ft, gd_undef, ↓any_op, ↓any_call, ↓any_callV, ↓any_invoke, xo_t, xo_c, args_nil, args_cons, bin_add, bin_sub, bin_mul, bin_quo, bin_rem, bin_and, bin_or, bin_xor, bin_andNot, bin_eql, bin_neq, bin_lss, bin_leq, bin_gtr, bin_geq, bin_shl, bin_shr, bin_bools, bin_strs, bin_ptrs, bin_slices, bin_aggs, ↓Option.bind_some, ↓Option.map_some, ↓cond_true, ↓cond_false, evC, evOp, XO.lit, setArgs, Tr.get_set, Option.bind_some, Option.map_some, cond_true, cond_false, maxI, maxFrom, minI, minFrom, aConv, aBinE, aEq, eqScal, aUn, evRes, fin, oneOf, if_true, if_false, callee, reduceCtorEq, Nat.reduceEqDiff, and_self, decide_true, decide_false, beq_true, beq_false, Bool.not_true, Bool.not_false, List.getElem?_cons_zero, List.getElem?_cons_succ, beq_self_eq_true, gt_iff_lt, ble_dec, beq_dec, List.head?_cons, AV.undef, eq_self, ne_eq, not_true_eq_false, not_false_eq_true, Int.reduceLT, Int.reduceLE, Int.reduceToNat, Int.reduceEq, Int.reduceNeg, Nat.reduceAdd, Nat.reduceLT, Nat.reduceLeDiff, Nat.reduceMul, Nat.reduceSub, AV.cells, AV.tup, Bool.true_and, true_and, and_true, List.drop_nil, List.append_nil, rd_put, rd_alloc, rdO, St.get_put, St.get_alloc, St.next_put, St.next_alloc, St.wr, Bool.and_self, Bool.and_true, List.length_cons, List.length_nil, List.take_succ_cons, List.take_zero, List.drop_succ_cons, List.drop_zero, List.cons_append, List.nil_append, Nat.zero_add, Nat.add_zero, Nat.reduceMul, g0, g1, g7, e1, e2, e3, e4, e5, e6, e7, e8, aBinE, aEq, eqScal, z8]
    exact ⟨_, _, rfl, rfl⟩
  · have l1 : s.length ≤ 40 := by omega
    obtain ⟨e1, e2, e3, e4, e5, e6, e7, e8⟩ := calls6 k (u := s) (t := t) m l1 ht
    simp -implicitDefEqProofs -dsimp (maxSteps := 10000000) only [af6, ↓goes_loop, ↓goes_seq, ↓goes_reg, ↓goes_dreg, ↓goes_cond, ↓goes_block, ↓goes_skip, ↓goes_exit, ↓goes_ret, after_some, br_true, br_false, ↓then_normal, ↓then_exit, ↓then_ret, ↓blk_normal, ↓blk_exit, ↓blk_ret, ↓blk_other, ops_nil, ops_some, ops_none, oper_none, oper_some, gd_tt, gd_ff, gd_tf, gd_ft, gd_undef, ↓any_op, ↓any_call, ↓any_callV, ↓any_invoke, xo_t, xo_c, args_nil, args_cons, bin_add, bin_sub, bin_mul, bin_quo, bin_rem, bin_and, bin_or, bin_xor, bin_andNot, bin_eql, bin_neq, bin_lss, bin_leq, bin_gtr, bin_geq, bin_shl, bin_shr, bin_bools, bin_strs, bin_ptrs, bin_slices, bin_aggs, ↓Option.bind_some, ↓Option.map_some, ↓cond_true, ↓cond_false, evC, evOp, XO.lit, setArgs, Tr.tabG, Tr.tabS, Tr.tabL, Tr.get_lf, Option.bind_some, Option.map_some, cond_true, cond_false, maxI, maxFrom, minI, minFrom, aConv, aBinE, aEq, eqScal, aUn, evRes, fin, oneOf, if_true, if_false, callee, reduceCtorEq, Nat.reduceEqDiff, and_self, decide_true, decide_false, beq_true, beq_false, Bool.not_true, Bool.not_false, List.getElem?_cons_zero, List.getElem?_cons_succ, beq_self_eq_true, gt_iff_lt, ble_dec, beq_dec, List.head?_cons, AV.undef, eq_self, ne_eq, not_true_eq_false, not_false_eq_true, Int.reduceLT, Int.reduceLE, Int.reduceToNat, Int.reduceEq, Int.reduceNeg, Nat.reduceAdd, Nat.reduceLT, Nat.reduceLeDiff, Nat.reduceMul, Nat.reduceSub, AV.cells, AV.tup, Bool.true_and, true_and, and_true, List.drop_nil, List.append_nil, rd_put, rd_alloc, rdO, St.get_put, St.get_alloc, St.next_put, St.next_alloc, St.wr, Bool.and_self, Bool.and_true, List.length_cons, List.length_nil, List.take_succ_cons, List.take_zero, List.drop_succ_cons, List.drop_zero, List.cons_append, List.nil_append, Nat.zero_add, Nat.add_zero, Nat.reduceMul, hs, c1]
    refine main6 k (m := m) l1 ht _ _ rfl rfl rfl rfl rfl rfl ?_
    intro T' S' g0 g1 g7
    simp -implicitDefEqProofs -dsimp (maxSteps := 10000000) only [↓goes_loop, ↓goes_seq, ↓goes_reg, ↓goes_dreg, ↓goes_cond, ↓goes_block, ↓goes_skip, ↓goes_exit, ↓goes_ret, after_some, br_true, br_false, ↓then_normal, ↓then_exit, ↓then_ret, ↓blk_normal, ↓blk_exit, ↓blk_ret, ↓blk_other, ops_nil, ops_some, ops_none, oper_none, oper_some, gd_tt, gd_ff, gd_tf, gd_ft, gd_undef, ↓any_op, ↓any_call, ↓any_callV, ↓any_invoke, xo_t, xo_c, args_nil, args_cons, bin_add, bin_sub, bin_mul, bin_quo, bin_rem, bin_and, bin_or, bin_xor, bin_andNot, bin_eql, bin_neq, bin_lss, bin_leq, bin_gtr, bin_geq, bin_shl, bin_shr, bin_bools, bin_strs, bin_ptrs, bin_slices, bin_aggs, ↓Option.bind_some, ↓Option.map_some, ↓cond_true, ↓cond_false, evC, evOp, XO.lit, setArgs, Tr.get_set, Option.bind_some, Option.map_some, cond_true, cond_false, maxI, maxFrom, minI, minFrom, aConv, aBinE, aEq, eqScal, aUn, evRes, fin, oneOf, if_true, if_false, callee, reduceCtorEq, Nat.reduceEqDiff, and_self, decide_true, decide_false, beq_true, beq_false, Bool.not_true, Bool.not_false, List.getElem?_cons_zero, List.getElem?_cons_succ, beq_self_eq_true, gt_iff_lt, ble_dec, beq_dec, List.head?_cons, AV.undef, eq_self, ne_eq, not_true_eq_false, not_false_eq_true, Int.reduceLT, Int.reduceLE, Int.reduceToNat, Int.reduceEq, Int.reduceNeg, Nat.reduceAdd, Nat.reduceLT, Nat.reduceLeDiff, Nat.reduceMul, Nat.reduceSub, AV.cells, AV.tup, Bool.true_and, true_and, and_true, List.drop_nil, List.append_nil, rd_put, rd_alloc, rdO, St.get_put, St.get_alloc, St.next_put, St.next_alloc, St.wr, Bool.and_self, Bool.and_true, List.length_cons, List.length_nil, List.take_succ_cons, List.take_zero, List.drop_succ_cons, List.drop_zero, List.cons_append, List.nil_append, Nat.zero_add, Nat.add_zero, Nat.reduceMul, g0, g1, g7, e1, e2, e3, e4, e5, e6, e7, e8, aBinE, aEq, eqScal, z8]
    exact ⟨_, _, rfl, rfl⟩
theorem law6 (a : ByteArray) (wa : a.size ≤ maxLen) (b : ByteArray) (wb : b.data.toList.length ≤ 1048576) {n : Int} : ∃ S', evF X13 AP (0 + 100) 6 [.str (bytesN a), .str (bytesN b), .int .u32 n] S0 = some (.bool true, S') :=
  ev6 0 n (bytes_len wa) (by unfold bytesN; rw [List.length_map]; omega)
end Go.Proofs.YtihddjacbalekaaA
