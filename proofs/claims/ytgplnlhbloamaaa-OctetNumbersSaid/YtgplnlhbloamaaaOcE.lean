/- Chapter 1: both sides held against each other; known; OctetTells. -/
import Derived.Test.YtgplnlhbloamaaaOcD
set_option linter.unusedVariables false
set_option linter.unusedSimpArgs false
set_option maxRecDepth 10000
namespace Go.Proofs.YtgplnlhbloamaaaA
open Go.RowKit
attribute [local congr] bind_congr1 map_congr1 cond_congr1 withX_congr after_congr br_congr gd_congr

def within (n lo hi : Int) : Int := if lo ≤ n ∧ n ≤ hi then n else lo + n % (hi - lo + 1)
theorem within_bd (n : Int) {lo hi : Int} (h : lo ≤ hi) : lo ≤ within n lo hi ∧ within n lo hi ≤ hi := by
  unfold within
  have h0 := Int.emod_nonneg n (show hi - lo + 1 ≠ 0 by omega)
  have h1 := Int.emod_lt_of_pos n (show 0 < hi - lo + 1 by omega)
  split <;> omega
theorem tmod_up (n m : Int) (hm : 0 < m) : (if Int.tmod n m < 0 then Int.tmod n m + m else Int.tmod n m) = n % m := by
  rw [Int.tmod_eq_emod]
  have h0 := Int.emod_nonneg n (show m ≠ 0 by omega)
  have h1 := Int.emod_lt_of_pos n hm
  split
  · rw [if_neg (by omega)]; omega
  · have hn : ((m.natAbs : Nat) : Int) = m := Int.natAbs_of_nonneg (by omega)
    by_cases hz : n % m = 0
    · rename_i hc
      exact absurd (Or.inr (Int.dvd_of_emod_eq_zero hz)) hc
    · rw [if_pos (by omega)]; omega
theorem T10 (k : Nat) (S : St) {n lo hi : Int} (h : lo ≤ hi) (h0 : 0 ≤ lo) (h1 : hi ≤ 4611686018427387904) : evF X0 AP (k + 4) 10 [.int .i64 n, .int .i64 lo, .int .i64 hi] S = some (.int .i64 (within n lo hi), S) := by
  rw [evF_body (af := af10) rfl rfl rfl]
  have w1 : IntKind.i64.wrap (hi - lo) = hi - lo := w64_id (by omega) (by omega)
  have w2 : IntKind.i64.wrap (hi - lo + 1) = hi - lo + 1 := w64_id (by omega) (by omega)
  have hne : ¬ hi - lo + 1 = 0 := by omega
  have hu := tmod_up n (hi - lo + 1) (by omega)
  have h2 := Int.emod_nonneg n (show hi - lo + 1 ≠ 0 by omega)
  have h3 := Int.emod_lt_of_pos n (show 0 < hi - lo + 1 by omega)
  obtain ⟨t, ht⟩ : ∃ t, Int.tmod n (hi - lo + 1) = t := ⟨_, rfl⟩
  rw [ht] at hu
  by_cases c1 : lo ≤ n
  · by_cases c2 : n ≤ hi
    · simp -implicitDefEqProofs -dsimp (maxSteps := 10000000) only [af10, ops_nil, ops_some, ops_none, oper_none, oper_some, gd_tt, gd_ff, gd_tf, gd_ft, gd_undef, ↓any_op, ↓any_call, ↓any_callV, ↓any_invoke, xo_t, xo_c, args_nil, args_cons, bin_add, bin_sub, bin_mul, bin_quo, bin_rem, bin_and, bin_or, bin_xor, bin_andNot, bin_eql, bin_neq, bin_lss, bin_leq, bin_gtr, bin_geq, bin_shl, bin_shr, bin_bools, bin_strs, bin_ptrs, bin_slices, bin_aggs, ↓Option.bind_some, ↓Option.map_some, ↓cond_true, ↓cond_false, evC, evOp, XO.lit, setArgs, Tr.tabG, Tr.tabS, Tr.tabL, Tr.get_lf, Option.bind_some, Option.map_some, cond_true, cond_false, maxI, maxFrom, minI, minFrom, aConv, aBinE, aEq, eqScal, aUn, evRes, fin, oneOf, if_true, if_false, callee, reduceCtorEq, Nat.reduceEqDiff, and_self, decide_true, decide_false, beq_true, beq_false, Bool.not_true, Bool.not_false, List.getElem?_cons_zero, List.getElem?_cons_succ, beq_self_eq_true, gt_iff_lt, ble_dec, beq_dec, List.head?_cons, AV.undef, eq_self, ne_eq, not_true_eq_false, not_false_eq_true, Int.reduceLT, Int.reduceLE, Int.reduceToNat, Int.reduceEq, Int.reduceNeg, Nat.reduceAdd, Nat.reduceLT, Nat.reduceLeDiff, Nat.reduceMul, Nat.reduceSub, AV.cells, AV.tup, Bool.true_and, true_and, and_true, List.drop_nil, List.append_nil, rd_put, rd_alloc, rdO, St.get_put, St.get_alloc, St.next_put, St.next_alloc, St.wr, Bool.and_self, Bool.and_true, List.length_cons, List.length_nil, List.take_succ_cons, List.take_zero, List.drop_succ_cons, List.drop_zero, List.cons_append, List.nil_append, Nat.zero_add, Nat.add_zero, Nat.reduceMul, c1, c2]
      simp only [within, c1, c2, and_self, if_true]
    · by_cases c3 : t < 0
      · rw [if_pos c3] at hu
        have w3 : IntKind.i64.wrap (t + hi) = t + hi := w64_id (by omega) (by omega)
        have w4 : IntKind.i64.wrap (t + hi - lo) = t + hi - lo := w64_id (by omega) (by omega)
        have w5 : IntKind.i64.wrap (t + hi - lo + 1) = t + hi - lo + 1 := w64_id (by omega) (by omega)
        have w6 : IntKind.i64.wrap (lo + (t + hi - lo + 1)) = lo + (t + hi - lo + 1) := w64_id (by omega) (by omega)
        simp -implicitDefEqProofs -dsimp (maxSteps := 10000000) only [af10, ops_nil, ops_some, ops_none, oper_none, oper_some, gd_tt, gd_ff, gd_tf, gd_ft, gd_undef, ↓any_op, ↓any_call, ↓any_callV, ↓any_invoke, xo_t, xo_c, args_nil, args_cons, bin_add, bin_sub, bin_mul, bin_quo, bin_rem, bin_and, bin_or, bin_xor, bin_andNot, bin_eql, bin_neq, bin_lss, bin_leq, bin_gtr, bin_geq, bin_shl, bin_shr, bin_bools, bin_strs, bin_ptrs, bin_slices, bin_aggs, ↓Option.bind_some, ↓Option.map_some, ↓cond_true, ↓cond_false, evC, evOp, XO.lit, setArgs, Tr.tabG, Tr.tabS, Tr.tabL, Tr.get_lf, Option.bind_some, Option.map_some, cond_true, cond_false, maxI, maxFrom, minI, minFrom, aConv, aBinE, aEq, eqScal, aUn, evRes, fin, oneOf, if_true, if_false, callee, reduceCtorEq, Nat.reduceEqDiff, and_self, decide_true, decide_false, beq_true, beq_false, Bool.not_true, Bool.not_false, List.getElem?_cons_zero, List.getElem?_cons_succ, beq_self_eq_true, gt_iff_lt, ble_dec, beq_dec, List.head?_cons, AV.undef, eq_self, ne_eq, not_true_eq_false, not_false_eq_true, Int.reduceLT, Int.reduceLE, Int.reduceToNat, Int.reduceEq, Int.reduceNeg, Nat.reduceAdd, Nat.reduceLT, Nat.reduceLeDiff, Nat.reduceMul, Nat.reduceSub, AV.cells, AV.tup, Bool.true_and, true_and, and_true, List.drop_nil, List.append_nil, rd_put, rd_alloc, rdO, St.get_put, St.get_alloc, St.next_put, St.next_alloc, St.wr, Bool.and_self, Bool.and_true, List.length_cons, List.length_nil, List.take_succ_cons, List.take_zero, List.drop_succ_cons, List.drop_zero, List.cons_append, List.nil_append, Nat.zero_add, Nat.add_zero, Nat.reduceMul, c1, c2, c3, ht, w1, w2, w3, w4, w5, w6, hne]
        simp only [within, c2, and_false, if_false]
        congr 3; omega
      · rw [if_neg c3] at hu
        have w6 : IntKind.i64.wrap (lo + t) = lo + t := w64_id (by omega) (by omega)
        simp -implicitDefEqProofs -dsimp (maxSteps := 10000000) only [af10, ops_nil, ops_some, ops_none, oper_none, oper_some, gd_tt, gd_ff, gd_tf, gd_ft, gd_undef, ↓any_op, ↓any_call, ↓any_callV, ↓any_invoke, xo_t, xo_c, args_nil, args_cons, bin_add, bin_sub, bin_mul, bin_quo, bin_rem, bin_and, bin_or, bin_xor, bin_andNot, bin_eql, bin_neq, bin_lss, bin_leq, bin_gtr, bin_geq, bin_shl, bin_shr, bin_bools, bin_strs, bin_ptrs, bin_slices, bin_aggs, ↓Option.bind_some, ↓Option.map_some, ↓cond_true, ↓cond_false, evC, evOp, XO.lit, setArgs, Tr.tabG, Tr.tabS, Tr.tabL, Tr.get_lf, Option.bind_some, Option.map_some, cond_true, cond_false, maxI, maxFrom, minI, minFrom, aConv, aBinE, aEq, eqScal, aUn, evRes, fin, oneOf, if_true, if_false, callee, reduceCtorEq, Nat.reduceEqDiff, and_self, decide_true, decide_false, beq_true, beq_false, Bool.not_true, Bool.not_false, List.getElem?_cons_zero, List.getElem?_cons_succ, beq_self_eq_true, gt_iff_lt, ble_dec, beq_dec, List.head?_cons, AV.undef, eq_self, ne_eq, not_true_eq_false, not_false_eq_true, Int.reduceLT, Int.reduceLE, Int.reduceToNat, Int.reduceEq, Int.reduceNeg, Nat.reduceAdd, Nat.reduceLT, Nat.reduceLeDiff, Nat.reduceMul, Nat.reduceSub, AV.cells, AV.tup, Bool.true_and, true_and, and_true, List.drop_nil, List.append_nil, rd_put, rd_alloc, rdO, St.get_put, St.get_alloc, St.next_put, St.next_alloc, St.wr, Bool.and_self, Bool.and_true, List.length_cons, List.length_nil, List.take_succ_cons, List.take_zero, List.drop_succ_cons, List.drop_zero, List.cons_append, List.nil_append, Nat.zero_add, Nat.add_zero, Nat.reduceMul, c1, c2, c3, ht, w1, w2, w6, hne]
        simp only [within, c2, and_false, if_false, hu]
  · by_cases c3 : t < 0
    · rw [if_pos c3] at hu
      have w3 : IntKind.i64.wrap (t + hi) = t + hi := w64_id (by omega) (by omega)
      have w4 : IntKind.i64.wrap (t + hi - lo) = t + hi - lo := w64_id (by omega) (by omega)
      have w5 : IntKind.i64.wrap (t + hi - lo + 1) = t + hi - lo + 1 := w64_id (by omega) (by omega)
      have w6 : IntKind.i64.wrap (lo + (t + hi - lo + 1)) = lo + (t + hi - lo + 1) := w64_id (by omega) (by omega)
      simp -implicitDefEqProofs -dsimp (maxSteps := 10000000) only [af10, ops_nil, ops_some, ops_none, oper_none, oper_some, gd_tt, gd_ff, gd_tf, gd_ft, gd_undef, ↓any_op, ↓any_call, ↓any_callV, ↓any_invoke, xo_t, xo_c, args_nil, args_cons, bin_add, bin_sub, bin_mul, bin_quo, bin_rem, bin_and, bin_or, bin_xor, bin_andNot, bin_eql, bin_neq, bin_lss, bin_leq, bin_gtr, bin_geq, bin_shl, bin_shr, bin_bools, bin_strs, bin_ptrs, bin_slices, bin_aggs, ↓Option.bind_some, ↓Option.map_some, ↓cond_true, ↓cond_false, evC, evOp, XO.lit, setArgs, Tr.tabG, Tr.tabS, Tr.tabL, Tr.get_lf, Option.bind_some, Option.map_some, cond_true, cond_false, maxI, maxFrom, minI, minFrom, aConv, aBinE, aEq, eqScal, aUn, evRes, fin, oneOf, if_true, if_false, callee, reduceCtorEq, Nat.reduceEqDiff, and_self, decide_true, decide_false, beq_true, beq_false, Bool.not_true, Bool.not_false, List.getElem?_cons_zero, List.getElem?_cons_succ, beq_self_eq_true, gt_iff_lt, ble_dec, beq_dec, List.head?_cons, AV.undef, eq_self, ne_eq, not_true_eq_false, not_false_eq_true, Int.reduceLT, Int.reduceLE, Int.reduceToNat, Int.reduceEq, Int.reduceNeg, Nat.reduceAdd, Nat.reduceLT, Nat.reduceLeDiff, Nat.reduceMul, Nat.reduceSub, AV.cells, AV.tup, Bool.true_and, true_and, and_true, List.drop_nil, List.append_nil, rd_put, rd_alloc, rdO, St.get_put, St.get_alloc, St.next_put, St.next_alloc, St.wr, Bool.and_self, Bool.and_true, List.length_cons, List.length_nil, List.take_succ_cons, List.take_zero, List.drop_succ_cons, List.drop_zero, List.cons_append, List.nil_append, Nat.zero_add, Nat.add_zero, Nat.reduceMul, c1, c3, ht, w1, w2, w3, w4, w5, w6, hne]
      simp only [within, c1, false_and, if_false]
      congr 3; omega
    · rw [if_neg c3] at hu
      have w6 : IntKind.i64.wrap (lo + t) = lo + t := w64_id (by omega) (by omega)
      simp -implicitDefEqProofs -dsimp (maxSteps := 10000000) only [af10, ops_nil, ops_some, ops_none, oper_none, oper_some, gd_tt, gd_ff, gd_tf, gd_ft, gd_undef, ↓any_op, ↓any_call, ↓any_callV, ↓any_invoke, xo_t, xo_c, args_nil, args_cons, bin_add, bin_sub, bin_mul, bin_quo, bin_rem, bin_and, bin_or, bin_xor, bin_andNot, bin_eql, bin_neq, bin_lss, bin_leq, bin_gtr, bin_geq, bin_shl, bin_shr, bin_bools, bin_strs, bin_ptrs, bin_slices, bin_aggs, ↓Option.bind_some, ↓Option.map_some, ↓cond_true, ↓cond_false, evC, evOp, XO.lit, setArgs, Tr.tabG, Tr.tabS, Tr.tabL, Tr.get_lf, Option.bind_some, Option.map_some, cond_true, cond_false, maxI, maxFrom, minI, minFrom, aConv, aBinE, aEq, eqScal, aUn, evRes, fin, oneOf, if_true, if_false, callee, reduceCtorEq, Nat.reduceEqDiff, and_self, decide_true, decide_false, beq_true, beq_false, Bool.not_true, Bool.not_false, List.getElem?_cons_zero, List.getElem?_cons_succ, beq_self_eq_true, gt_iff_lt, ble_dec, beq_dec, List.head?_cons, AV.undef, eq_self, ne_eq, not_true_eq_false, not_false_eq_true, Int.reduceLT, Int.reduceLE, Int.reduceToNat, Int.reduceEq, Int.reduceNeg, Nat.reduceAdd, Nat.reduceLT, Nat.reduceLeDiff, Nat.reduceMul, Nat.reduceSub, AV.cells, AV.tup, Bool.true_and, true_and, and_true, List.drop_nil, List.append_nil, rd_put, rd_alloc, rdO, St.get_put, St.get_alloc, St.next_put, St.next_alloc, St.wr, Bool.and_self, Bool.and_true, List.length_cons, List.length_nil, List.take_succ_cons, List.take_zero, List.drop_succ_cons, List.drop_zero, List.cons_append, List.nil_append, Nat.zero_add, Nat.add_zero, Nat.reduceMul, c1, c3, ht, w1, w2, w6, hne]
      simp only [within, c1, false_and, if_false, hu]
theorem eqStr_refl : ∀ l : List Nat, eqStr l l = true
  | [] => rfl
  | a :: l => by simp only [eqStr, Nat.beq_refl, Bool.true_and, eqStr_refl l]
theorem By.lit {S : St} {l : List Nat} (hb : Byt l) (hm : l.length ≤ 9223372036854775807) : By (S.alloc (.cells (bv l) 0 0 true)) (some (S.next, 0, 0)) 1 l := by
  refine ⟨.inr rfl, fun h => (by cases h), fun o v i h => ?_, hb, hm⟩
  cases h
  refine ⟨Nat.lt_succ_self _, ?_⟩
  rw [rd_cells (by rw [St.get_alloc, if_pos rfl]) (Nat.le_refl _) (by rw [bv_len]; omega), List.drop_zero, List.take_of_length_le (by rw [bv_len]; exact Nat.le_refl _)]
theorem I64.num {n : Int} (h0 : -9223372036854775808 ≤ n) (h1 : n ≤ 9223372036854775807) : I64 n := ⟨h0, h1⟩
section
variable {S : St} {p : Option (Nat × Nat × Nat)} {e : Nat} {c : Option Nat} {l : List Nat} (k : Nat)
set_option maxHeartbeats 4000000 in
theorem T8 (h : By S p e l) (hr : l.length ≤ 140737488351500) {n a z : Int} (ha : I64 a) (hz : I64 z) :
    ∃ S', evF X0 AP (k + 80) 8 [.slice p l.length e c, .int .u64 n, .int .i64 a, .int .i64 z] S = some (.bool true, S') ∧ Ext S S' := by
  obtain ⟨S1, r1, x1⟩ := T12 (k + 59) (c := c) h hr ha hz
  have h1 := h.ext x1
  have r2 := T15 (k + 59) (c := c) h1 hr ha hz
  obtain ⟨v3, S3, r3, b3, x3⟩ := T14 (k + 75) (c := c) h1 hr ha hz
  have h3 := h1.ext x3
  obtain ⟨v4, S4, r4, b4, x4⟩ := T16 (k + 75) (c := c) h3 hr ha hz
  have h4 := h3.ext x4
  obtain ⟨v5, S5, r5, b5, x5⟩ := T11 (k + 59) (c := c) h4 hr (n := n) hz
  have h5 := h4.ext x5
  obtain ⟨v6, S6, r6, b6, x6⟩ := T17 (k + 59) (c := c) h5 hr (n := n) hz
  have h6 := h5.ext x6
  obtain ⟨v7, S7, r7, b7, x7⟩ := T13 (k + 9) (c := c) h6 hr (to := z)
  have h7 := h6.ext x7
  obtain ⟨v8, S8, r8, b8, x8⟩ := T18 (k + 9) (c := c) h7 hr (to := z)
  have s1 := (b3.ext x4).str
  have s2 := b4.str
  have s3 := b5.str
  have s4 := (b5.ext x6).str
  have s5 := b6.str
  have s6 := b7.str
  have s7 := (b7.ext x8).str
  have s8 := b8.str
  have r1 : evF X0 AP (k + 79) 12 [.slice p l.length e c, .int .i64 a, .int .i64 z] S = _ := r1
  have r2 : evF X0 AP (k + 79) 15 [.slice p l.length e c, .int .i64 a, .int .i64 z] S1 = _ := r2
  have r3 : evF X0 AP (k + 79) 14 [.slice p l.length e c, .int .i64 a, .int .i64 z] S1 = _ := r3
  have r4 : evF X0 AP (k + 79) 16 [.slice p l.length e c, .int .i64 a, .int .i64 z] S3 = _ := r4
  have r5 : evF X0 AP (k + 79) 11 [.slice p l.length e c, .int .u64 n, .int .i64 z] S4 = _ := r5
  have r6 : evF X0 AP (k + 79) 17 [.slice p l.length e c, .int .u64 n, .int .i64 z] S5 = _ := r6
  have r7 : evF X0 AP (k + 79) 13 [.slice p l.length e c, .int .i64 z] S6 = _ := r7
  have r8 : evF X0 AP (k + 79) 18 [.slice p l.length e c, .int .i64 z] S7 = _ := r8
  refine ⟨S8, ?_, x1.trans (x3.trans (x4.trans (x5.trans (x6.trans (x7.trans x8)))))⟩
  rw [evF_body (af := af8) rfl rfl rfl]
  simp -implicitDefEqProofs -dsimp (maxSteps := 10000000) only [af8, ops_nil, ops_some, ops_none, oper_none, oper_some, gd_tt, gd_ff, gd_tf, gd_ft, gd_undef, ↓any_op, ↓any_call, ↓any_callV, ↓any_invoke, xo_t, xo_c, args_nil, args_cons, bin_add, bin_sub, bin_mul, bin_quo, bin_rem, bin_and, bin_or, bin_xor, bin_andNot, bin_eql, bin_neq, bin_lss, bin_leq, bin_gtr, bin_geq, bin_shl, bin_shr, bin_bools, bin_strs, bin_ptrs, bin_slices, bin_aggs, ↓Option.bind_some, ↓Option.map_some, ↓cond_true, ↓cond_false, evC, evOp, XO.lit, setArgs, Tr.tabG, Tr.tabS, Tr.tabL, Tr.get_lf, Option.bind_some, Option.map_some, cond_true, cond_false, maxI, maxFrom, minI, minFrom, aBinE, aEq, eqScal, aUn, evRes, fin, oneOf, if_true, if_false, callee, reduceCtorEq, Nat.reduceEqDiff, and_self, decide_true, decide_false, beq_true, beq_false, Bool.not_true, Bool.not_false, List.getElem?_cons_zero, List.getElem?_cons_succ, beq_self_eq_true, gt_iff_lt, ble_dec, beq_dec, List.head?_cons, AV.undef, eq_self, ne_eq, not_true_eq_false, not_false_eq_true, Int.reduceLT, Int.reduceLE, Int.reduceToNat, Int.reduceEq, Int.reduceNeg, Nat.reduceAdd, Nat.reduceLT, Nat.reduceLeDiff, Nat.reduceMul, Nat.reduceSub, ↓evDraw_nil, putD, evDraw, trace, List.all_cons, List.all_nil, chk, stAt, again, sameV, sameA, AV.undef, Bool.and_self, Bool.and_true, decide_eq_true_eq, List.getElem?_nil, r1, r2, r3, r4, r5, r6, r7, r8, s1, s2, s3, s4, s5, s6, s7, s8, aStr, eqStr_refl]
set_option maxHeartbeats 4000000 in
theorem T9 : ∃ S', evF X0 AP (k + 80) 9 [] S = some (.bool true, S') ∧ Ext S S' := by
  have b0 : By (S.alloc (.cells (bv [0, 1, 2]) 0 0 true)) (some (S.next, 0, 0)) 1 [0, 1, 2] := .lit (by unfold Byt; decide) (by decide)
  obtain ⟨S1, r1, x1⟩ := T12 (k + 59) (c := none) b0 (by decide) (a := 1) (n := 2) ⟨by decide, by decide⟩ ⟨by decide, by decide⟩
  obtain ⟨S2, r2, x2⟩ := T12 (k + 59) (c := none) (By.zero S1 0) (by decide) (a := 0) (n := 1) ⟨by decide, by decide⟩ ⟨by decide, by decide⟩
  have b2 : By (S2.alloc (.cells (bv [97, 98, 99]) 0 0 true)) (some (S2.next, 0, 0)) 1 [97, 98, 99] := .lit (by unfold Byt; decide) (by decide)
  have mk : aConv .mark (.slice (some (S2.next, 0, 0)) 3 1 none) (S2.alloc (.cells (bv [97, 98, 99]) 0 0 true)) = some (.slice (some (S2.next, 0, 0)) 3 1 none, S2.alloc (.cells (bv [97, 98, 99]) 0 0 true)) := by
    simp only [aConv, St.get_alloc, if_true]; rfl
  obtain ⟨v3, S3, r3, b3, x3⟩ := T14 (k + 75) (c := none) b2 (by decide) (a := 1) (n := 2) ⟨by decide, by decide⟩ ⟨by decide, by decide⟩
  obtain ⟨v4, S4, r4, b4, x4⟩ := T11 (k + 59) (c := none) (By.zero S3 0) (by decide) (n := 258) (size := 3) ⟨by decide, by decide⟩
  have b5 : By (S4.alloc (.cells (bv [1]) 0 0 true)) (some (S4.next, 0, 0)) 1 [1] := .lit (by unfold Byt; decide) (by decide)
  obtain ⟨v5, S5, r5, b5, x5⟩ := T13 (k + 9) (c := none) b5 (by decide) (to := 4)
  have b6 : By (S5.alloc (.cells (bv [0, 0, 0, 0]) 0 0 true)) (some (S5.next, 0, 0)) 1 [0, 0, 0, 0] := .lit (by unfold Byt; decide) (by decide)
  obtain ⟨v6, S6, r6, b6, x6⟩ := T13 (k + 9) (c := none) b6 (by decide) (to := 4)
  obtain ⟨v7, S7, r7, b7, x7⟩ := T11 (k + 59) (c := none) (By.zero S6 0) (by decide) (n := 1) (size := 9) ⟨by decide, by decide⟩
  have s3 := (b3.ext x4).str
  have s4 := b4.str
  obtain ⟨p5, e5, c5, rfl, b5⟩ := b5
  obtain ⟨p6, e6, c6, rfl, b6⟩ := b6
  obtain ⟨p7, e7, c7, rfl, b7⟩ := b7
  have g1 : getL [0, 1, 2] 1 2 = 258 := by decide
  have g2 : getOk [0, 1, 2] 1 2 = true := by decide
  have g3 : getOk [] 0 1 = false := by decide
  have g4 : decide (cutOk [97, 98, 99] 1 2) = true := by decide
  have g5 : cutL [97, 98, 99] 1 2 = [98, 99] := by decide
  have g6 : putL [] 258 3 = [0, 1, 2] := by decide
  have g7 : (padL [1] 4).length = 4 := by decide
  have g8 : (padL [0, 0, 0, 0] 4).length = 4 := by decide
  have g9 : (putL [] 1 9).length = 0 := by decide
  rw [g1, g2] at r1
  rw [g3] at r2
  rw [g4] at r3
  rw [g5] at s3
  rw [g6] at s4
  rw [g7] at r5
  rw [g8] at r6
  rw [g9] at r7
  have r1 : evF X0 AP (k + 79) 12 [.slice (some (S.next, 0, 0)) 3 1 none, .int .i64 1, .int .i64 2] (S.alloc (.cells [.int .u8 0, .int .u8 1, .int .u8 2] 0 0 true)) = _ := r1
  have r2 : evF X0 AP (k + 79) 12 [.slice none 0 0 none, .int .i64 0, .int .i64 1] S1 = _ := r2
  have mk : aConv .mark (.slice (some (S2.next, 0, 0)) 3 1 none) (S2.alloc (.cells [.int .u8 97, .int .u8 98, .int .u8 99] 0 0 true)) = some (.slice (some (S2.next, 0, 0)) 3 1 none, S2.alloc (.cells [.int .u8 97, .int .u8 98, .int .u8 99] 0 0 true)) := mk
  have r3 : evF X0 AP (k + 79) 14 [.slice (some (S2.next, 0, 0)) 3 1 none, .int .i64 1, .int .i64 2] (S2.alloc (.cells [.int .u8 97, .int .u8 98, .int .u8 99] 0 0 true)) = _ := r3
  have r4 : evF X0 AP (k + 79) 11 [.slice none 0 0 none, .int .u64 258, .int .i64 3] S3 = _ := r4
  have r5 : evF X0 AP (k + 79) 13 [.slice (some (S4.next, 0, 0)) 1 1 none, .int .i64 4] (S4.alloc (.cells [.int .u8 1] 0 0 true)) = _ := r5
  have r6 : evF X0 AP (k + 79) 13 [.slice (some (S5.next, 0, 0)) 4 1 none, .int .i64 4] (S5.alloc (.cells [.int .u8 0, .int .u8 0, .int .u8 0, .int .u8 0] 0 0 true)) = _ := r6
  have r7 : evF X0 AP (k + 79) 11 [.slice none 0 0 none, .int .u64 1, .int .i64 9] S6 = _ := r7
  have z1 : ((258 : Nat) : Int) = 258 := rfl
  have z2 : ((4 : Nat) : Int) = 4 := rfl
  have z3 : ((0 : Nat) : Int) = 0 := rfl
  have z4 : ((1 : Nat) : Int) = 1 := rfl
  have q1 : eqStr [0, 1, 2] [0, 1, 2] = true := rfl
  have q2 : eqStr [98, 99] [98, 99] = true := rfl
  refine ⟨S7, ?_, (Ext.alloc S _).trans (x1.trans (x2.trans ((Ext.alloc S2 _).trans (x3.trans (x4.trans ((Ext.alloc S4 _).trans (x5.trans ((Ext.alloc S5 _).trans (x6.trans x7)))))))))⟩
  rw [evF_body (af := af9) rfl rfl rfl]
  simp -implicitDefEqProofs -dsimp (maxSteps := 10000000) only [af9, ops_nil, ops_some, ops_none, oper_none, oper_some, gd_tt, gd_ff, gd_tf, gd_ft, gd_undef, ↓any_op, ↓any_call, ↓any_callV, ↓any_invoke, xo_t, xo_c, args_nil, args_cons, bin_add, bin_sub, bin_mul, bin_quo, bin_rem, bin_and, bin_or, bin_xor, bin_andNot, bin_eql, bin_neq, bin_lss, bin_leq, bin_gtr, bin_geq, bin_shl, bin_shr, bin_bools, bin_strs, bin_ptrs, bin_slices, bin_aggs, ↓Option.bind_some, ↓Option.map_some, ↓cond_true, ↓cond_false, evC, evOp, XO.lit, setArgs, Tr.tabG, Tr.tabS, Tr.tabL, Tr.get_lf, Option.bind_some, Option.map_some, cond_true, cond_false, maxI, maxFrom, minI, minFrom, aBinE, aEq, eqScal, aUn, evRes, fin, oneOf, if_true, if_false, callee, reduceCtorEq, Nat.reduceEqDiff, and_self, decide_true, decide_false, beq_true, beq_false, Bool.not_true, Bool.not_false, List.getElem?_cons_zero, List.getElem?_cons_succ, beq_self_eq_true, gt_iff_lt, ble_dec, beq_dec, List.head?_cons, AV.undef, eq_self, ne_eq, not_true_eq_false, not_false_eq_true, Int.reduceLT, Int.reduceLE, Int.reduceToNat, Int.reduceEq, Int.reduceNeg, Nat.reduceAdd, Nat.reduceLT, Nat.reduceLeDiff, Nat.reduceMul, Nat.reduceSub, ↓evDraw_nil, putD, evDraw, trace, List.all_cons, List.all_nil, chk, stAt, again, sameV, sameA, AV.undef, Bool.and_self, Bool.and_true, decide_eq_true_eq, List.getElem?_nil, aFill, evParts, rep, List.replicate_succ, List.replicate_zero, List.flatten_cons, List.flatten_nil, List.append_nil, newSl, newVar, AV.cells, AV.tup, Bool.true_and, true_and, and_true, List.drop_nil, List.append_nil, rd_put, rd_alloc, rdO, St.get_put, St.get_alloc, St.next_put, St.next_alloc, St.wr, Bool.and_self, Bool.and_true, List.length_cons, List.length_nil, List.take_succ_cons, List.take_zero, List.drop_succ_cons, List.drop_zero, List.cons_append, List.nil_append, Nat.zero_add, Nat.add_zero, Nat.reduceMul, r1, r2, r3, r4, r5, r6, r7, mk, s3, s4, aStr, eqStr_refl, z1, z2, z3, z4, Int.reduceMul, q1, q2]
end
end Go.Proofs.YtgplnlhbloamaaaA
