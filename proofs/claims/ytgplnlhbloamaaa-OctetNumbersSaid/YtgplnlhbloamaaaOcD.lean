/- Chapter 1: padding; both sides held against each other. -/
import Derived.Test.YtgplnlhbloamaaaOcC
set_option linter.unusedVariables false
set_option linter.unusedSimpArgs false
set_option maxRecDepth 10000
namespace Go.Proofs.YtgplnlhbloamaaaA
open Go.RowKit
attribute [local congr] bind_congr1 map_congr1 cond_congr1 withX_congr after_congr br_congr gd_congr

def padN (n t : Nat) : Nat := (t - n % t) % t
theorem padN_lt (n : Nat) {t : Nat} (ht : 0 < t) : padN n t < t := Nat.mod_lt _ ht
theorem padN_end (n : Nat) {t : Nat} (ht : 0 < t) : (n + padN n t) % t = 0 := by
  unfold padN
  have h := Nat.mod_lt n ht
  rw [Nat.add_mod, Nat.mod_mod]
  by_cases h0 : n % t = 0
  · rw [h0]; simp
  · rw [Nat.mod_eq_of_lt (show t - n % t < t by omega), show n % t + (t - n % t) = t by omega, Nat.mod_self]
theorem padN_in (n : Nat) {t j : Nat} (ht : 0 < t) (hj : j < padN n t) : (n + j) % t ≠ 0 := by
  unfold padN at hj
  have h := Nat.mod_lt n ht
  by_cases h0 : n % t = 0
  · rw [h0] at hj; simp at hj
  · rw [Nat.mod_eq_of_lt (show t - n % t < t by omega)] at hj
    rw [Nat.add_mod, Nat.mod_eq_of_lt (show j < t by omega), Nat.mod_eq_of_lt (show n % t + j < t by omega)]
    omega
def padL (l : List Nat) (to : Int) : List Nat := if to < 1 ∨ 64 < to then l else l ++ List.replicate (padN l.length to.toNat) 0
theorem byt_rep (j : Nat) : Byt (List.replicate j 0) := fun b hb => by rw [(List.mem_replicate.1 hb).2]; decide
structure I13 (Sb : St) (l : List Nat) (to : Int) (m : Nat) (T : Tm) (S : St) : Prop where
  t1 : T.get 1 = some (.int .i64 to)
  more : ∃ p e c j, T.get 5 = some (.slice p c.length e none) ∧ Gr Sb S p e c ∧ c = l ++ List.replicate j 0 ∧ j + m = padN l.length to.toNat
section
variable {S : St} {p : Option (Nat × Nat × Nat)} {e : Nat} {c : Option Nat} {l : List Nat} (k : Nat)
set_option maxHeartbeats 1000000 in
theorem round13 {Sb : St} {to : Int} (h0 : 1 ≤ to) (h1 : to ≤ 64) (hr : l.length ≤ 140737488351500) (m : Nat) (T : Tm) (S : St) (h : I13 Sb l to m T S) :
    Goes (evF X0 AP (k + 69)) (k + 69) af13_l0 T S (Then (fun T' S' => ∃ m', I13 Sb l to m' T' S' ∧ id m' < id m) fun r T' S' => r = .exit 0 ∧ I13 Sb l to 0 T' S') := by
  obtain ⟨t1, p, e, c, j, t5, hg, hc, hj⟩ := h
  have hp := padN_lt l.length (t := to.toNat) (by omega)
  have hl : c.length = l.length + j := by rw [hc, List.length_append, List.length_replicate]
  have hm : c.length ≤ 9223372036854775807 := by omega
  have z1 : ¬ to = 0 := by omega
  have htm : Int.tmod (c.length : Int) to = (((l.length + j) % to.toNat : Nat) : Int) := by
    rw [Int.tmod_eq_emod_of_nonneg (by omega), hl]
    conv => lhs; rw [show to = ((to.toNat : Nat) : Int) by omega]
    exact (Int.natCast_emod _ _).symm
  rcases m with _ | m
  · have c0 : (((l.length + j) % to.toNat : Nat) : Int) = 0 := by
      rw [show j = padN l.length to.toNat by omega, padN_end _ (by omega)]; rfl
    simp -implicitDefEqProofs -dsimp (maxSteps := 10000000) only [af13_l0, ↓goes_loop, ↓goes_seq, ↓goes_reg, ↓goes_dreg, ↓goes_cond, ↓goes_block, ↓goes_skip, ↓goes_exit, ↓goes_ret, after_some, br_true, br_false, ↓then_normal, ↓then_exit, ↓then_ret, ↓blk_normal, ↓blk_exit, ↓blk_ret, ↓blk_other, ops_nil, ops_some, ops_none, oper_none, oper_some, gd_tt, gd_ff, gd_tf, gd_ft, gd_undef, ↓any_op, ↓any_call, ↓any_callV, ↓any_invoke, xo_t, xo_c, args_nil, args_cons, bin_add, bin_sub, bin_mul, bin_quo, bin_rem, bin_and, bin_or, bin_xor, bin_andNot, bin_eql, bin_neq, bin_lss, bin_leq, bin_gtr, bin_geq, bin_shl, bin_shr, bin_bools, bin_strs, bin_ptrs, bin_slices, bin_aggs, ↓Option.bind_some, ↓Option.map_some, ↓cond_true, ↓cond_false, evC, evOp, XO.lit, setArgs, Tr.get_set, Option.bind_some, Option.map_some, cond_true, cond_false, maxI, maxFrom, minI, minFrom, aConv, aBinE, aEq, eqScal, aUn, evRes, fin, oneOf, if_true, if_false, callee, reduceCtorEq, Nat.reduceEqDiff, and_self, decide_true, decide_false, beq_true, beq_false, Bool.not_true, Bool.not_false, List.getElem?_cons_zero, List.getElem?_cons_succ, beq_self_eq_true, gt_iff_lt, ble_dec, beq_dec, List.head?_cons, AV.undef, eq_self, ne_eq, not_true_eq_false, not_false_eq_true, Int.reduceLT, Int.reduceLE, Int.reduceToNat, Int.reduceEq, Int.reduceNeg, Nat.reduceAdd, Nat.reduceLT, Nat.reduceLeDiff, Nat.reduceMul, Nat.reduceSub, AV.cells, AV.tup, Bool.true_and, true_and, and_true, List.drop_nil, List.append_nil, rd_put, rd_alloc, rdO, St.get_put, St.get_alloc, St.next_put, St.next_alloc, St.wr, Bool.and_self, Bool.and_true, List.length_cons, List.length_nil, List.take_succ_cons, List.take_zero, List.drop_succ_cons, List.drop_zero, List.cons_append, List.nil_append, Nat.zero_add, Nat.add_zero, Nat.reduceMul, t1, t5, hm, z1, htm, c0]
    refine ⟨?_, p, e, c, j, ?_, hg, hc, hj⟩ <;> simp only [Tr.get_set, Nat.reduceEqDiff, if_false, if_true, t1, t5]
  · have c0 : ¬ (((l.length + j) % to.toNat : Nat) : Int) = 0 := by
      have := padN_in l.length (t := to.toNat) (j := j) (by omega) (by omega)
      omega
    obtain ⟨p', e', S', h1, h2⟩ := (hg.more (.alloc S (.cells [.int .u8 ((0 : Nat) : Int)] 0 0 true))).app1 (b := 0) (by decide) (by omega)
    have hz : ((0 : Nat) : Int) = 0 := rfl
    rw [hz] at h1
    simp -implicitDefEqProofs -dsimp (maxSteps := 10000000) only [af13_l0, ↓goes_loop, ↓goes_seq, ↓goes_reg, ↓goes_dreg, ↓goes_cond, ↓goes_block, ↓goes_skip, ↓goes_exit, ↓goes_ret, after_some, br_true, br_false, ↓then_normal, ↓then_exit, ↓then_ret, ↓blk_normal, ↓blk_exit, ↓blk_ret, ↓blk_other, ops_nil, ops_some, ops_none, oper_none, oper_some, gd_tt, gd_ff, gd_tf, gd_ft, gd_undef, ↓any_op, ↓any_call, ↓any_callV, ↓any_invoke, xo_t, xo_c, args_nil, args_cons, bin_add, bin_sub, bin_mul, bin_quo, bin_rem, bin_and, bin_or, bin_xor, bin_andNot, bin_eql, bin_neq, bin_lss, bin_leq, bin_gtr, bin_geq, bin_shl, bin_shr, bin_bools, bin_strs, bin_ptrs, bin_slices, bin_aggs, ↓Option.bind_some, ↓Option.map_some, ↓cond_true, ↓cond_false, evC, evOp, XO.lit, setArgs, Tr.get_set, Option.bind_some, Option.map_some, cond_true, cond_false, maxI, maxFrom, minI, minFrom, aConv, aBinE, aEq, eqScal, aUn, evRes, fin, oneOf, if_true, if_false, callee, reduceCtorEq, Nat.reduceEqDiff, and_self, decide_true, decide_false, beq_true, beq_false, Bool.not_true, Bool.not_false, List.getElem?_cons_zero, List.getElem?_cons_succ, beq_self_eq_true, gt_iff_lt, ble_dec, beq_dec, List.head?_cons, AV.undef, eq_self, ne_eq, not_true_eq_false, not_false_eq_true, Int.reduceLT, Int.reduceLE, Int.reduceToNat, Int.reduceEq, Int.reduceNeg, Nat.reduceAdd, Nat.reduceLT, Nat.reduceLeDiff, Nat.reduceMul, Nat.reduceSub, AV.cells, AV.tup, Bool.true_and, true_and, and_true, List.drop_nil, List.append_nil, rd_put, rd_alloc, rdO, St.get_put, St.get_alloc, St.next_put, St.next_alloc, St.wr, Bool.and_self, Bool.and_true, List.length_cons, List.length_nil, List.take_succ_cons, List.take_zero, List.drop_succ_cons, List.drop_zero, List.cons_append, List.nil_append, Nat.zero_add, Nat.add_zero, Nat.reduceMul, aFill, evParts, rep, List.replicate_succ, List.replicate_zero, List.flatten_cons, List.flatten_nil, List.append_nil, newSl, newVar, t1, t5, hm, z1, htm, c0, h1]
    refine ⟨m, ⟨?_, p', e', c ++ [0], j + 1, ?_, h2, ?_, by omega⟩, Nat.lt_succ_self m⟩
    rotate_right
    · rw [hc, List.append_assoc, ← List.replicate_succ']
    all_goals simp only [Tr.get_set, Nat.reduceEqDiff, if_false, if_true, t1, t5, List.length_append, List.length_singleton]
set_option maxHeartbeats 1000000 in
theorem T13 (h : By S p e l) (hr : l.length ≤ 140737488351500) {to : Int} :
    ∃ v' S', evF X0 AP (k + 70) 13 [.slice p l.length e c, .int .i64 to] S = some (v', S') ∧ Bs S' v' (padL l to) ∧ Ext S S' := by
  obtain ⟨p1, e1, S1, h19, g1⟩ := T19 (k + 66) (c := c) h (by omega)
  have h19 : evF X0 AP (k + 69) 19 [.slice p l.length e c] S = some (.slice p1 l.length e1 none, S1) := h19
  refine evF_goes (af := af13) (k := k + 69) rfl rfl rfl ?_
  have b1 := g1.by_ (by omega)
  by_cases c1 : to < 1
  · simp -implicitDefEqProofs -dsimp (maxSteps := 10000000) only [af13, ↓goes_loop, ↓goes_seq, ↓goes_reg, ↓goes_dreg, ↓goes_cond, ↓goes_block, ↓goes_skip, ↓goes_exit, ↓goes_ret, after_some, br_true, br_false, ↓then_normal, ↓then_exit, ↓then_ret, ↓blk_normal, ↓blk_exit, ↓blk_ret, ↓blk_other, ops_nil, ops_some, ops_none, oper_none, oper_some, gd_tt, gd_ff, gd_tf, gd_ft, gd_undef, ↓any_op, ↓any_call, ↓any_callV, ↓any_invoke, xo_t, xo_c, args_nil, args_cons, bin_add, bin_sub, bin_mul, bin_quo, bin_rem, bin_and, bin_or, bin_xor, bin_andNot, bin_eql, bin_neq, bin_lss, bin_leq, bin_gtr, bin_geq, bin_shl, bin_shr, bin_bools, bin_strs, bin_ptrs, bin_slices, bin_aggs, ↓Option.bind_some, ↓Option.map_some, ↓cond_true, ↓cond_false, evC, evOp, XO.lit, setArgs, Tr.tabG, Tr.tabS, Tr.tabL, Tr.get_lf, Option.bind_some, Option.map_some, cond_true, cond_false, maxI, maxFrom, minI, minFrom, aConv, aBinE, aEq, eqScal, aUn, evRes, fin, oneOf, if_true, if_false, callee, reduceCtorEq, Nat.reduceEqDiff, and_self, decide_true, decide_false, beq_true, beq_false, Bool.not_true, Bool.not_false, List.getElem?_cons_zero, List.getElem?_cons_succ, beq_self_eq_true, gt_iff_lt, ble_dec, beq_dec, List.head?_cons, AV.undef, eq_self, ne_eq, not_true_eq_false, not_false_eq_true, Int.reduceLT, Int.reduceLE, Int.reduceToNat, Int.reduceEq, Int.reduceNeg, Nat.reduceAdd, Nat.reduceLT, Nat.reduceLeDiff, Nat.reduceMul, Nat.reduceSub, h19, c1]
    exact ⟨_, _, rfl, ⟨p1, e1, none, by simp only [padL, c1, true_or, if_true], by simpa only [padL, c1, true_or, if_true] using b1⟩, g1.ext⟩
  by_cases c2 : 64 < to
  · simp -implicitDefEqProofs -dsimp (maxSteps := 10000000) only [af13, ↓goes_loop, ↓goes_seq, ↓goes_reg, ↓goes_dreg, ↓goes_cond, ↓goes_block, ↓goes_skip, ↓goes_exit, ↓goes_ret, after_some, br_true, br_false, ↓then_normal, ↓then_exit, ↓then_ret, ↓blk_normal, ↓blk_exit, ↓blk_ret, ↓blk_other, ops_nil, ops_some, ops_none, oper_none, oper_some, gd_tt, gd_ff, gd_tf, gd_ft, gd_undef, ↓any_op, ↓any_call, ↓any_callV, ↓any_invoke, xo_t, xo_c, args_nil, args_cons, bin_add, bin_sub, bin_mul, bin_quo, bin_rem, bin_and, bin_or, bin_xor, bin_andNot, bin_eql, bin_neq, bin_lss, bin_leq, bin_gtr, bin_geq, bin_shl, bin_shr, bin_bools, bin_strs, bin_ptrs, bin_slices, bin_aggs, ↓Option.bind_some, ↓Option.map_some, ↓cond_true, ↓cond_false, evC, evOp, XO.lit, setArgs, Tr.tabG, Tr.tabS, Tr.tabL, Tr.get_lf, Option.bind_some, Option.map_some, cond_true, cond_false, maxI, maxFrom, minI, minFrom, aConv, aBinE, aEq, eqScal, aUn, evRes, fin, oneOf, if_true, if_false, callee, reduceCtorEq, Nat.reduceEqDiff, and_self, decide_true, decide_false, beq_true, beq_false, Bool.not_true, Bool.not_false, List.getElem?_cons_zero, List.getElem?_cons_succ, beq_self_eq_true, gt_iff_lt, ble_dec, beq_dec, List.head?_cons, AV.undef, eq_self, ne_eq, not_true_eq_false, not_false_eq_true, Int.reduceLT, Int.reduceLE, Int.reduceToNat, Int.reduceEq, Int.reduceNeg, Nat.reduceAdd, Nat.reduceLT, Nat.reduceLeDiff, Nat.reduceMul, Nat.reduceSub, h19, c1, c2]
    exact ⟨_, _, rfl, ⟨p1, e1, none, by simp only [padL, c2, or_true, if_true], by simpa only [padL, c2, or_true, if_true] using b1⟩, g1.ext⟩
  have hp := padN_lt l.length (t := to.toNat) (by omega)
  simp -implicitDefEqProofs -dsimp (maxSteps := 10000000) only [af13, ↓goes_loop, ↓goes_seq, ↓goes_reg, ↓goes_dreg, ↓goes_cond, ↓goes_block, ↓goes_skip, ↓goes_exit, ↓goes_ret, after_some, br_true, br_false, ↓then_normal, ↓then_exit, ↓then_ret, ↓blk_normal, ↓blk_exit, ↓blk_ret, ↓blk_other, ops_nil, ops_some, ops_none, oper_none, oper_some, gd_tt, gd_ff, gd_tf, gd_ft, gd_undef, ↓any_op, ↓any_call, ↓any_callV, ↓any_invoke, xo_t, xo_c, args_nil, args_cons, bin_add, bin_sub, bin_mul, bin_quo, bin_rem, bin_and, bin_or, bin_xor, bin_andNot, bin_eql, bin_neq, bin_lss, bin_leq, bin_gtr, bin_geq, bin_shl, bin_shr, bin_bools, bin_strs, bin_ptrs, bin_slices, bin_aggs, ↓Option.bind_some, ↓Option.map_some, ↓cond_true, ↓cond_false, evC, evOp, XO.lit, setArgs, Tr.tabG, Tr.tabS, Tr.tabL, Tr.get_lf, Option.bind_some, Option.map_some, cond_true, cond_false, maxI, maxFrom, minI, minFrom, aConv, aBinE, aEq, eqScal, aUn, evRes, fin, oneOf, if_true, if_false, callee, reduceCtorEq, Nat.reduceEqDiff, and_self, decide_true, decide_false, beq_true, beq_false, Bool.not_true, Bool.not_false, List.getElem?_cons_zero, List.getElem?_cons_succ, beq_self_eq_true, gt_iff_lt, ble_dec, beq_dec, List.head?_cons, AV.undef, eq_self, ne_eq, not_true_eq_false, not_false_eq_true, Int.reduceLT, Int.reduceLE, Int.reduceToNat, Int.reduceEq, Int.reduceNeg, Nat.reduceAdd, Nat.reduceLT, Nat.reduceLeDiff, Nat.reduceMul, Nat.reduceSub, h19, c1, c2]
  refine .while (I13 S l to) id (padN l.length to.toNat) ⟨rfl, p1, e1, l, 0, rfl, g1, by simp, by omega⟩ (by show padN l.length to.toNat < k + 69; omega) fun m T2 S2 h2 => (round13 k (by omega) (by omega) hr m T2 S2 h2).mono ?_
  intro r T' S' hq
  cases r with
  | normal => exact hq
  | ret => exact absurd hq.1 (by simp)
  | exit i =>
    obtain ⟨hi, t1, p3, e3, c3, j, t5, g3, hc3, hj⟩ := hq
    cases hi
    have hc3 : c3 = padL l to := by
      rw [hc3, padL, if_neg (by omega)]; congr 2
    have hl3 : c3.length ≤ 140737488355328 := by
      rw [hc3, padL, if_neg (by omega), List.length_append, List.length_replicate]; omega
    obtain ⟨v', h20, hv⟩ := T20 (k + 66) g3 hl3
    have h20 : evF X0 AP (k + 69) 20 [.slice p3 c3.length e3 none] S' = some (v', S') := h20
    simp -implicitDefEqProofs -dsimp (maxSteps := 10000000) only [↓goes_loop, ↓goes_seq, ↓goes_reg, ↓goes_dreg, ↓goes_cond, ↓goes_block, ↓goes_skip, ↓goes_exit, ↓goes_ret, after_some, br_true, br_false, ↓then_normal, ↓then_exit, ↓then_ret, ↓blk_normal, ↓blk_exit, ↓blk_ret, ↓blk_other, ops_nil, ops_some, ops_none, oper_none, oper_some, gd_tt, gd_ff, gd_tf, gd_ft, gd_undef, ↓any_op, ↓any_call, ↓any_callV, ↓any_invoke, xo_t, xo_c, args_nil, args_cons, bin_add, bin_sub, bin_mul, bin_quo, bin_rem, bin_and, bin_or, bin_xor, bin_andNot, bin_eql, bin_neq, bin_lss, bin_leq, bin_gtr, bin_geq, bin_shl, bin_shr, bin_bools, bin_strs, bin_ptrs, bin_slices, bin_aggs, ↓Option.bind_some, ↓Option.map_some, ↓cond_true, ↓cond_false, evC, evOp, XO.lit, setArgs, Tr.get_set, Option.bind_some, Option.map_some, cond_true, cond_false, maxI, maxFrom, minI, minFrom, aConv, aBinE, aEq, eqScal, aUn, evRes, fin, oneOf, if_true, if_false, callee, reduceCtorEq, Nat.reduceEqDiff, and_self, decide_true, decide_false, beq_true, beq_false, Bool.not_true, Bool.not_false, List.getElem?_cons_zero, List.getElem?_cons_succ, beq_self_eq_true, gt_iff_lt, ble_dec, beq_dec, List.head?_cons, AV.undef, eq_self, ne_eq, not_true_eq_false, not_false_eq_true, Int.reduceLT, Int.reduceLE, Int.reduceToNat, Int.reduceEq, Int.reduceNeg, Nat.reduceAdd, Nat.reduceLT, Nat.reduceLeDiff, Nat.reduceMul, Nat.reduceSub, t5, h20]
    exact ⟨_, _, rfl, hc3 ▸ hv, g3.ext⟩
set_option maxHeartbeats 1000000 in
theorem round18 {Sb : St} {to : Int} (h0 : 1 ≤ to) (h1 : to ≤ 64) (hr : l.length ≤ 140737488351500) (m : Nat) (T : Tm) (S : St) (h : I13 Sb l to m T S) :
    Goes (evF X0 AP (k + 69)) (k + 69) af18_l0 T S (Then (fun T' S' => ∃ m', I13 Sb l to m' T' S' ∧ id m' < id m) fun r T' S' => r = .exit 0 ∧ I13 Sb l to 0 T' S') := by
  obtain ⟨t1, p, e, c, j, t5, hg, hc, hj⟩ := h
  have hp := padN_lt l.length (t := to.toNat) (by omega)
  have hl : c.length = l.length + j := by rw [hc, List.length_append, List.length_replicate]
  have hm : c.length ≤ 9223372036854775807 := by omega
  have z1 : ¬ to = 0 := by omega
  have htm : Int.tmod (c.length : Int) to = (((l.length + j) % to.toNat : Nat) : Int) := by
    rw [Int.tmod_eq_emod_of_nonneg (by omega), hl]
    conv => lhs; rw [show to = ((to.toNat : Nat) : Int) by omega]
    exact (Int.natCast_emod _ _).symm
  rcases m with _ | m
  · have c0 : (((l.length + j) % to.toNat : Nat) : Int) = 0 := by
      rw [show j = padN l.length to.toNat by omega, padN_end _ (by omega)]; rfl
    simp -implicitDefEqProofs -dsimp (maxSteps := 10000000) only [af18_l0, ↓goes_loop, ↓goes_seq, ↓goes_reg, ↓goes_dreg, ↓goes_cond, ↓goes_block, ↓goes_skip, ↓goes_exit, ↓goes_ret, after_some, br_true, br_false, ↓then_normal, ↓then_exit, ↓then_ret, ↓blk_normal, ↓blk_exit, ↓blk_ret, ↓blk_other, ops_nil, ops_some, ops_none, oper_none, oper_some, gd_tt, gd_ff, gd_tf, gd_ft, gd_undef, ↓any_op, ↓any_call, ↓any_callV, ↓any_invoke, xo_t, xo_c, args_nil, args_cons, bin_add, bin_sub, bin_mul, bin_quo, bin_rem, bin_and, bin_or, bin_xor, bin_andNot, bin_eql, bin_neq, bin_lss, bin_leq, bin_gtr, bin_geq, bin_shl, bin_shr, bin_bools, bin_strs, bin_ptrs, bin_slices, bin_aggs, ↓Option.bind_some, ↓Option.map_some, ↓cond_true, ↓cond_false, evC, evOp, XO.lit, setArgs, Tr.get_set, Option.bind_some, Option.map_some, cond_true, cond_false, maxI, maxFrom, minI, minFrom, aConv, aBinE, aEq, eqScal, aUn, evRes, fin, oneOf, if_true, if_false, callee, reduceCtorEq, Nat.reduceEqDiff, and_self, decide_true, decide_false, beq_true, beq_false, Bool.not_true, Bool.not_false, List.getElem?_cons_zero, List.getElem?_cons_succ, beq_self_eq_true, gt_iff_lt, ble_dec, beq_dec, List.head?_cons, AV.undef, eq_self, ne_eq, not_true_eq_false, not_false_eq_true, Int.reduceLT, Int.reduceLE, Int.reduceToNat, Int.reduceEq, Int.reduceNeg, Nat.reduceAdd, Nat.reduceLT, Nat.reduceLeDiff, Nat.reduceMul, Nat.reduceSub, AV.cells, AV.tup, Bool.true_and, true_and, and_true, List.drop_nil, List.append_nil, rd_put, rd_alloc, rdO, St.get_put, St.get_alloc, St.next_put, St.next_alloc, St.wr, Bool.and_self, Bool.and_true, List.length_cons, List.length_nil, List.take_succ_cons, List.take_zero, List.drop_succ_cons, List.drop_zero, List.cons_append, List.nil_append, Nat.zero_add, Nat.add_zero, Nat.reduceMul, t1, t5, hm, z1, htm, c0, h0, h1]
    refine ⟨?_, p, e, c, j, ?_, hg, hc, hj⟩ <;> simp only [Tr.get_set, Nat.reduceEqDiff, if_false, if_true, t1, t5]
  · have c0 : ¬ (((l.length + j) % to.toNat : Nat) : Int) = 0 := by
      have := padN_in l.length (t := to.toNat) (j := j) (by omega) (by omega)
      omega
    obtain ⟨p', e', S', h3, h2⟩ := (hg.more (.alloc S (.cells [.int .u8 ((0 : Nat) : Int)] 0 0 true))).app1 (b := 0) (by decide) (by omega)
    have hz : ((0 : Nat) : Int) = 0 := rfl
    rw [hz] at h3
    simp -implicitDefEqProofs -dsimp (maxSteps := 10000000) only [af18_l0, ↓goes_loop, ↓goes_seq, ↓goes_reg, ↓goes_dreg, ↓goes_cond, ↓goes_block, ↓goes_skip, ↓goes_exit, ↓goes_ret, after_some, br_true, br_false, ↓then_normal, ↓then_exit, ↓then_ret, ↓blk_normal, ↓blk_exit, ↓blk_ret, ↓blk_other, ops_nil, ops_some, ops_none, oper_none, oper_some, gd_tt, gd_ff, gd_tf, gd_ft, gd_undef, ↓any_op, ↓any_call, ↓any_callV, ↓any_invoke, xo_t, xo_c, args_nil, args_cons, bin_add, bin_sub, bin_mul, bin_quo, bin_rem, bin_and, bin_or, bin_xor, bin_andNot, bin_eql, bin_neq, bin_lss, bin_leq, bin_gtr, bin_geq, bin_shl, bin_shr, bin_bools, bin_strs, bin_ptrs, bin_slices, bin_aggs, ↓Option.bind_some, ↓Option.map_some, ↓cond_true, ↓cond_false, evC, evOp, XO.lit, setArgs, Tr.get_set, Option.bind_some, Option.map_some, cond_true, cond_false, maxI, maxFrom, minI, minFrom, aConv, aBinE, aEq, eqScal, aUn, evRes, fin, oneOf, if_true, if_false, callee, reduceCtorEq, Nat.reduceEqDiff, and_self, decide_true, decide_false, beq_true, beq_false, Bool.not_true, Bool.not_false, List.getElem?_cons_zero, List.getElem?_cons_succ, beq_self_eq_true, gt_iff_lt, ble_dec, beq_dec, List.head?_cons, AV.undef, eq_self, ne_eq, not_true_eq_false, not_false_eq_true, Int.reduceLT, Int.reduceLE, Int.reduceToNat, Int.reduceEq, Int.reduceNeg, Nat.reduceAdd, Nat.reduceLT, Nat.reduceLeDiff, Nat.reduceMul, Nat.reduceSub, AV.cells, AV.tup, Bool.true_and, true_and, and_true, List.drop_nil, List.append_nil, rd_put, rd_alloc, rdO, St.get_put, St.get_alloc, St.next_put, St.next_alloc, St.wr, Bool.and_self, Bool.and_true, List.length_cons, List.length_nil, List.take_succ_cons, List.take_zero, List.drop_succ_cons, List.drop_zero, List.cons_append, List.nil_append, Nat.zero_add, Nat.add_zero, Nat.reduceMul, aFill, evParts, rep, List.replicate_succ, List.replicate_zero, List.flatten_cons, List.flatten_nil, List.append_nil, newSl, newVar, t1, t5, hm, z1, htm, c0, h0, h1, h3]
    refine ⟨m, ⟨?_, p', e', c ++ [0], j + 1, ?_, h2, ?_, by omega⟩, Nat.lt_succ_self m⟩
    rotate_right
    · rw [hc, List.append_assoc, ← List.replicate_succ']
    all_goals simp only [Tr.get_set, Nat.reduceEqDiff, if_false, if_true, t1, t5, List.length_append, List.length_singleton]
/-- The document's padding loop, whatever is asked. -/
theorem wh18 {Sb : St} {to : Int} (hr : l.length ≤ 140737488351500) {T : Tm} {S : St} (t1 : T.get 1 = some (.int .i64 to)) {p : Option (Nat × Nat × Nat)} {e : Nat} (t5 : T.get 5 = some (.slice p l.length e none)) (g : Gr Sb S p e l) {Q : Ex → Tm → St → Prop}
    (hQ : ∀ T' S', (∃ p' e', T'.get 5 = some (.slice p' (padL l to).length e' none) ∧ Gr Sb S' p' e' (padL l to)) → Q (.exit 0) T' S') : Goes (evF X0 AP (k + 69)) (k + 69) (.loop af18_l0) T S Q := by
  by_cases h0 : 1 ≤ to
  · by_cases h1 : to ≤ 64
    · have hp := padN_lt l.length (t := to.toNat) (by omega)
      refine .while (I13 Sb l to) id (padN l.length to.toNat) ⟨t1, p, e, l, 0, t5, g, by simp, by omega⟩ (by show padN l.length to.toNat < k + 69; omega) fun m T2 S2 h2 => (round18 k h0 h1 hr m T2 S2 h2).mono ?_
      intro r T' S' hq
      cases r with
      | normal => exact hq
      | ret => exact absurd hq.1 (by simp)
      | exit i =>
        obtain ⟨hi, t1, p3, e3, c3, j, t5, g3, hc3, hj⟩ := hq
        cases hi
        have hc3 : c3 = padL l to := by
          rw [hc3, padL, if_neg (by omega)]; congr 2
        subst hc3
        exact hQ _ _ ⟨p3, e3, t5, g3⟩
    · refine .while (fun (m : Nat) T' S' => T' = T ∧ S' = S) id 0 ⟨rfl, rfl⟩ (by show 0 < k + 69; omega) ?_
      rintro m T' S' ⟨rfl, rfl⟩
      simp -implicitDefEqProofs -dsimp (maxSteps := 10000000) only [af18_l0, ↓goes_loop, ↓goes_seq, ↓goes_reg, ↓goes_dreg, ↓goes_cond, ↓goes_block, ↓goes_skip, ↓goes_exit, ↓goes_ret, after_some, br_true, br_false, ↓then_normal, ↓then_exit, ↓then_ret, ↓blk_normal, ↓blk_exit, ↓blk_ret, ↓blk_other, ops_nil, ops_some, ops_none, oper_none, oper_some, gd_tt, gd_ff, gd_tf, gd_ft, gd_undef, ↓any_op, ↓any_call, ↓any_callV, ↓any_invoke, xo_t, xo_c, args_nil, args_cons, bin_add, bin_sub, bin_mul, bin_quo, bin_rem, bin_and, bin_or, bin_xor, bin_andNot, bin_eql, bin_neq, bin_lss, bin_leq, bin_gtr, bin_geq, bin_shl, bin_shr, bin_bools, bin_strs, bin_ptrs, bin_slices, bin_aggs, ↓Option.bind_some, ↓Option.map_some, ↓cond_true, ↓cond_false, evC, evOp, XO.lit, setArgs, Tr.get_set, Option.bind_some, Option.map_some, cond_true, cond_false, maxI, maxFrom, minI, minFrom, aConv, aBinE, aEq, eqScal, aUn, evRes, fin, oneOf, if_true, if_false, callee, reduceCtorEq, Nat.reduceEqDiff, and_self, decide_true, decide_false, beq_true, beq_false, Bool.not_true, Bool.not_false, List.getElem?_cons_zero, List.getElem?_cons_succ, beq_self_eq_true, gt_iff_lt, ble_dec, beq_dec, List.head?_cons, AV.undef, eq_self, ne_eq, not_true_eq_false, not_false_eq_true, Int.reduceLT, Int.reduceLE, Int.reduceToNat, Int.reduceEq, Int.reduceNeg, Nat.reduceAdd, Nat.reduceLT, Nat.reduceLeDiff, Nat.reduceMul, Nat.reduceSub, AV.cells, AV.tup, Bool.true_and, true_and, and_true, List.drop_nil, List.append_nil, rd_put, rd_alloc, rdO, St.get_put, St.get_alloc, St.next_put, St.next_alloc, St.wr, Bool.and_self, Bool.and_true, List.length_cons, List.length_nil, List.take_succ_cons, List.take_zero, List.drop_succ_cons, List.drop_zero, List.cons_append, List.nil_append, Nat.zero_add, Nat.add_zero, Nat.reduceMul, t1, t5, h0, h1]
      refine hQ _ _ ⟨p, e, ?_, ?_⟩
      · simp only [Tr.get_set, Nat.reduceEqDiff, if_false, if_true, t5, padL, if_pos (show to < 1 ∨ 64 < to by omega)]
      · simpa only [padL, if_pos (show to < 1 ∨ 64 < to by omega)] using g
  · refine .while (fun (m : Nat) T' S' => T' = T ∧ S' = S) id 0 ⟨rfl, rfl⟩ (by show 0 < k + 69; omega) ?_
    rintro m T' S' ⟨rfl, rfl⟩
    simp -implicitDefEqProofs -dsimp (maxSteps := 10000000) only [af18_l0, ↓goes_loop, ↓goes_seq, ↓goes_reg, ↓goes_dreg, ↓goes_cond, ↓goes_block, ↓goes_skip, ↓goes_exit, ↓goes_ret, after_some, br_true, br_false, ↓then_normal, ↓then_exit, ↓then_ret, ↓blk_normal, ↓blk_exit, ↓blk_ret, ↓blk_other, ops_nil, ops_some, ops_none, oper_none, oper_some, gd_tt, gd_ff, gd_tf, gd_ft, gd_undef, ↓any_op, ↓any_call, ↓any_callV, ↓any_invoke, xo_t, xo_c, args_nil, args_cons, bin_add, bin_sub, bin_mul, bin_quo, bin_rem, bin_and, bin_or, bin_xor, bin_andNot, bin_eql, bin_neq, bin_lss, bin_leq, bin_gtr, bin_geq, bin_shl, bin_shr, bin_bools, bin_strs, bin_ptrs, bin_slices, bin_aggs, ↓Option.bind_some, ↓Option.map_some, ↓cond_true, ↓cond_false, evC, evOp, XO.lit, setArgs, Tr.get_set, Option.bind_some, Option.map_some, cond_true, cond_false, maxI, maxFrom, minI, minFrom, aConv, aBinE, aEq, eqScal, aUn, evRes, fin, oneOf, if_true, if_false, callee, reduceCtorEq, Nat.reduceEqDiff, and_self, decide_true, decide_false, beq_true, beq_false, Bool.not_true, Bool.not_false, List.getElem?_cons_zero, List.getElem?_cons_succ, beq_self_eq_true, gt_iff_lt, ble_dec, beq_dec, List.head?_cons, AV.undef, eq_self, ne_eq, not_true_eq_false, not_false_eq_true, Int.reduceLT, Int.reduceLE, Int.reduceToNat, Int.reduceEq, Int.reduceNeg, Nat.reduceAdd, Nat.reduceLT, Nat.reduceLeDiff, Nat.reduceMul, Nat.reduceSub, AV.cells, AV.tup, Bool.true_and, true_and, and_true, List.drop_nil, List.append_nil, rd_put, rd_alloc, rdO, St.get_put, St.get_alloc, St.next_put, St.next_alloc, St.wr, Bool.and_self, Bool.and_true, List.length_cons, List.length_nil, List.take_succ_cons, List.take_zero, List.drop_succ_cons, List.drop_zero, List.cons_append, List.nil_append, Nat.zero_add, Nat.add_zero, Nat.reduceMul, t1, t5, h0]
    refine hQ _ _ ⟨p, e, ?_, ?_⟩
    · simp only [Tr.get_set, Nat.reduceEqDiff, if_false, if_true, t5, padL, if_pos (show to < 1 ∨ 64 < to by omega)]
    · simpa only [padL, if_pos (show to < 1 ∨ 64 < to by omega)] using g
theorem padL_len (to : Int) : (padL l to).length ≤ l.length + 64 := by
  unfold padL
  split
  · omega
  · have hp := padN_lt l.length (t := to.toNat) (by omega)
    rw [List.length_append, List.length_replicate]; omega
set_option maxHeartbeats 1000000 in
theorem T18 (h : By S p e l) (hr : l.length ≤ 140737488351500) {to : Int} :
    ∃ v' S', evF X0 AP (k + 70) 18 [.slice p l.length e c, .int .i64 to] S = some (v', S') ∧ Bs S' v' (padL l to) ∧ Ext S S' := by
  obtain ⟨p1, e1, S1, h3, g1⟩ := fresh_app h (by omega) c
  refine evF_goes (af := af18) (k := k + 69) rfl rfl rfl ?_
  have b1 := g1.by_ (by omega)
  have hpl := padL_len (l := l) to
  rcases p with _ | ⟨o, v, i⟩
  all_goals
    simp only [evOp, XO.ev, Option.bind_some] at h3
    simp -implicitDefEqProofs -dsimp (maxSteps := 10000000) only [af18, ↓goes_loop, ↓goes_seq, ↓goes_reg, ↓goes_dreg, ↓goes_cond, ↓goes_block, ↓goes_skip, ↓goes_exit, ↓goes_ret, after_some, br_true, br_false, ↓then_normal, ↓then_exit, ↓then_ret, ↓blk_normal, ↓blk_exit, ↓blk_ret, ↓blk_other, ops_nil, ops_some, ops_none, oper_none, oper_some, gd_tt, gd_ff, gd_tf, gd_ft, gd_undef, ↓any_op, ↓any_call, ↓any_callV, ↓any_invoke, xo_t, xo_c, args_nil, args_cons, bin_add, bin_sub, bin_mul, bin_quo, bin_rem, bin_and, bin_or, bin_xor, bin_andNot, bin_eql, bin_neq, bin_lss, bin_leq, bin_gtr, bin_geq, bin_shl, bin_shr, bin_bools, bin_strs, bin_ptrs, bin_slices, bin_aggs, ↓Option.bind_some, ↓Option.map_some, ↓cond_true, ↓cond_false, evC, evOp, XO.lit, setArgs, Tr.tabG, Tr.tabS, Tr.tabL, Tr.get_lf, Option.bind_some, Option.map_some, cond_true, cond_false, maxI, maxFrom, minI, minFrom, aConv, aBinE, aEq, eqScal, aUn, evRes, fin, oneOf, if_true, if_false, callee, reduceCtorEq, Nat.reduceEqDiff, and_self, decide_true, decide_false, beq_true, beq_false, Bool.not_true, Bool.not_false, List.getElem?_cons_zero, List.getElem?_cons_succ, beq_self_eq_true, gt_iff_lt, ble_dec, beq_dec, List.head?_cons, AV.undef, eq_self, ne_eq, not_true_eq_false, not_false_eq_true, Int.reduceLT, Int.reduceLE, Int.reduceToNat, Int.reduceEq, Int.reduceNeg, Nat.reduceAdd, Nat.reduceLT, Nat.reduceLeDiff, Nat.reduceMul, Nat.reduceSub, aFill, evParts, rep, List.replicate_succ, List.replicate_zero, List.flatten_cons, List.flatten_nil, List.append_nil, newSl, newVar, h3]
    refine wh18 k hr (to := to) rfl rfl g1 ?_
    rintro T' S' ⟨p3, e3, t5, g3⟩
    simp -implicitDefEqProofs -dsimp (maxSteps := 10000000) only [↓goes_loop, ↓goes_seq, ↓goes_reg, ↓goes_dreg, ↓goes_cond, ↓goes_block, ↓goes_skip, ↓goes_exit, ↓goes_ret, after_some, br_true, br_false, ↓then_normal, ↓then_exit, ↓then_ret, ↓blk_normal, ↓blk_exit, ↓blk_ret, ↓blk_other, ops_nil, ops_some, ops_none, oper_none, oper_some, gd_tt, gd_ff, gd_tf, gd_ft, gd_undef, ↓any_op, ↓any_call, ↓any_callV, ↓any_invoke, xo_t, xo_c, args_nil, args_cons, bin_add, bin_sub, bin_mul, bin_quo, bin_rem, bin_and, bin_or, bin_xor, bin_andNot, bin_eql, bin_neq, bin_lss, bin_leq, bin_gtr, bin_geq, bin_shl, bin_shr, bin_bools, bin_strs, bin_ptrs, bin_slices, bin_aggs, ↓Option.bind_some, ↓Option.map_some, ↓cond_true, ↓cond_false, evC, evOp, XO.lit, setArgs, Tr.get_set, Option.bind_some, Option.map_some, cond_true, cond_false, maxI, maxFrom, minI, minFrom, aConv, aBinE, aEq, eqScal, aUn, evRes, fin, oneOf, if_true, if_false, callee, reduceCtorEq, Nat.reduceEqDiff, and_self, decide_true, decide_false, beq_true, beq_false, Bool.not_true, Bool.not_false, List.getElem?_cons_zero, List.getElem?_cons_succ, beq_self_eq_true, gt_iff_lt, ble_dec, beq_dec, List.head?_cons, AV.undef, eq_self, ne_eq, not_true_eq_false, not_false_eq_true, Int.reduceLT, Int.reduceLE, Int.reduceToNat, Int.reduceEq, Int.reduceNeg, Nat.reduceAdd, Nat.reduceLT, Nat.reduceLeDiff, Nat.reduceMul, Nat.reduceSub, t5]
    exact ⟨_, _, rfl, ⟨p3, e3, none, rfl, g3.by_ (by omega)⟩, g3.ext⟩
end
end Go.Proofs.YtgplnlhbloamaaaA
