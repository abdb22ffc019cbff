/- Chapter 1: OctetPads. -/
import Derived.Test.YtgplnlhbloamaaaOcF
set_option linter.unusedVariables false
set_option linter.unusedSimpArgs false
set_option maxRecDepth 10000
namespace Go.Proofs.YtgplnlhbloamaaaA
open Go.RowKit
attribute [local congr] bind_congr1 map_congr1 cond_congr1 withX_congr after_congr br_congr gd_congr

theorem padL_twice (l : List Nat) {t : Int} (h0 : 1 ≤ t) (h1 : t ≤ 64) : padL (padL l t) t = padL l t := by
  have e : padL l t = l ++ List.replicate (padN l.length t.toNat) 0 := by rw [padL, if_neg (by omega)]
  have h : padN (padL l t).length t.toNat = 0 := by
    rw [e, List.length_append, List.length_replicate]
    unfold padN
    rw [show (l.length + (t.toNat - l.length % t.toNat) % t.toNat) % t.toNat = 0 from padN_end l.length (by omega)]
    simp
  conv => lhs; rw [padL, if_neg (show ¬ (t < 1 ∨ 64 < t) by omega), h]
  simp
theorem padL_byt {l : List Nat} (h : Byt l) (t : Int) : Byt (padL l t) := by unfold padL; split; exact h; exact h.app (byt_rep _)
theorem get_one {l : List Nat} (hl : l.length ≤ 9223372036854775807) {j : Nat} (hj : j < l.length) : getL l j 1 = l[j] ∧ getOk l j 1 = true := by
  have k1 : cutOk l j 1 := by unfold cutOk; omega
  have hc : cutOk l j 1 ∧ (1 : Int) ≤ 1 ∧ (1 : Int) ≤ 8 := ⟨k1, by decide, by decide⟩
  refine ⟨?_, decide_eq_true hc⟩
  rw [getL, if_pos hc, cutL, if_pos k1]
  rw [show ((j : Nat) : Int).toNat = j from rfl, List.drop_eq_getElem_cons hj]
  show hvF 0 [l[j]] = l[j]
  simp [hvF]
structure I7 (p : Option (Nat × Nat × Nat)) (e : Nat) (c : Option Nat) (l : List Nat) (kk n : Int) (ok : Bool) (Sb : St) (m : Nat) (T : Tm) (S : St) : Prop where
  t5 : T.get 5 = some (.int .i64 kk)
  t6 : T.get 6 = some (.slice p l.length e c)
  t7 : T.get 7 = some (.int .u64 n)
  t8 : T.get 8 = some (.bool ok)
  ext : Ext Sb S
  more : ∃ j x : Nat, T.get 10 = some (.int .i64 j) ∧ T.get 9 = some (.int .u64 x) ∧ j + m = min l.length 8 ∧ x < 256 ^ j ∧ hvF x ((l.take 8).drop j) = hv (l.take 8)
section
variable {S : St} {p : Option (Nat × Nat × Nat)} {e : Nat} {c : Option Nat} {l : List Nat} (k : Nat)
set_option maxHeartbeats 4000000 in
theorem round7 {Sb : St} (h : By Sb p e l) (hr : l.length ≤ 140737488351500) {kk n : Int} {ok : Bool} (m : Nat) (T : Tm) (S : St) (hI : I7 p e c l kk n ok Sb m T S) :
    Goes (evF X0 AP (k + 80)) (k + 80) af7_l0 T S (Then (fun T' S' => ∃ m', I7 p e c l kk n ok Sb m' T' S' ∧ id m' < id m) fun r T' S' => r = .exit 0 ∧ I7 p e c l kk n ok Sb 0 T' S') := by
  obtain ⟨t5, t6, t7, t8, x0, j, x, t10, t9, hj, hx, hv'⟩ := hI
  have hm : l.length ≤ 9223372036854775807 := by omega
  rcases m with _ | m
  · by_cases c0 : (j : Int) < (l.length : Int)
    · have c1 : ¬ (j : Int) < 8 := by omega
      simp -implicitDefEqProofs -dsimp (maxSteps := 10000000) only [af7_l0, ↓goes_loop, ↓goes_seq, ↓goes_reg, ↓goes_dreg, ↓goes_cond, ↓goes_block, ↓goes_skip, ↓goes_exit, ↓goes_ret, after_some, br_true, br_false, ↓then_normal, ↓then_exit, ↓then_ret, ↓blk_normal, ↓blk_exit, ↓blk_ret, ↓blk_other, ops_nil, ops_some, ops_none, oper_none, oper_some, gd_tt, gd_ff, gd_tf, gd_ft, gd_undef, ↓any_op, ↓any_call, ↓any_callV, ↓any_invoke, xo_t, xo_c, args_nil, args_cons, bin_add, bin_sub, bin_mul, bin_quo, bin_rem, bin_and, bin_or, bin_xor, bin_andNot, bin_eql, bin_neq, bin_lss, bin_leq, bin_gtr, bin_geq, bin_shl, bin_shr, bin_bools, bin_strs, bin_ptrs, bin_slices, bin_aggs, ↓Option.bind_some, ↓Option.map_some, ↓cond_true, ↓cond_false, evC, evOp, XO.lit, setArgs, Tr.get_set, Option.bind_some, Option.map_some, cond_true, cond_false, maxI, maxFrom, minI, minFrom, aConv, aBinE, aEq, eqScal, aUn, evRes, fin, oneOf, if_true, if_false, callee, reduceCtorEq, Nat.reduceEqDiff, and_self, decide_true, decide_false, beq_true, beq_false, Bool.not_true, Bool.not_false, List.getElem?_cons_zero, List.getElem?_cons_succ, beq_self_eq_true, gt_iff_lt, ble_dec, beq_dec, List.head?_cons, AV.undef, eq_self, ne_eq, not_true_eq_false, not_false_eq_true, Int.reduceLT, Int.reduceLE, Int.reduceToNat, Int.reduceEq, Int.reduceNeg, Nat.reduceAdd, Nat.reduceLT, Nat.reduceLeDiff, Nat.reduceMul, Nat.reduceSub, AV.cells, AV.tup, Bool.true_and, true_and, and_true, List.drop_nil, List.append_nil, rd_put, rd_alloc, rdO, St.get_put, St.get_alloc, St.next_put, St.next_alloc, St.wr, Bool.and_self, Bool.and_true, List.length_cons, List.length_nil, List.take_succ_cons, List.take_zero, List.drop_succ_cons, List.drop_zero, List.cons_append, List.nil_append, Nat.zero_add, Nat.add_zero, Nat.reduceMul, t5, t6, t7, t8, t9, t10, hm, c0, c1]
      refine ⟨?_, ?_, ?_, ?_, x0, j, x, ?_, ?_, hj, hx, hv'⟩ <;> simp only [Tr.get_set, Nat.reduceEqDiff, if_false, if_true, t5, t6, t7, t8, t9, t10]
    · simp -implicitDefEqProofs -dsimp (maxSteps := 10000000) only [af7_l0, ↓goes_loop, ↓goes_seq, ↓goes_reg, ↓goes_dreg, ↓goes_cond, ↓goes_block, ↓goes_skip, ↓goes_exit, ↓goes_ret, after_some, br_true, br_false, ↓then_normal, ↓then_exit, ↓then_ret, ↓blk_normal, ↓blk_exit, ↓blk_ret, ↓blk_other, ops_nil, ops_some, ops_none, oper_none, oper_some, gd_tt, gd_ff, gd_tf, gd_ft, gd_undef, ↓any_op, ↓any_call, ↓any_callV, ↓any_invoke, xo_t, xo_c, args_nil, args_cons, bin_add, bin_sub, bin_mul, bin_quo, bin_rem, bin_and, bin_or, bin_xor, bin_andNot, bin_eql, bin_neq, bin_lss, bin_leq, bin_gtr, bin_geq, bin_shl, bin_shr, bin_bools, bin_strs, bin_ptrs, bin_slices, bin_aggs, ↓Option.bind_some, ↓Option.map_some, ↓cond_true, ↓cond_false, evC, evOp, XO.lit, setArgs, Tr.get_set, Option.bind_some, Option.map_some, cond_true, cond_false, maxI, maxFrom, minI, minFrom, aConv, aBinE, aEq, eqScal, aUn, evRes, fin, oneOf, if_true, if_false, callee, reduceCtorEq, Nat.reduceEqDiff, and_self, decide_true, decide_false, beq_true, beq_false, Bool.not_true, Bool.not_false, List.getElem?_cons_zero, List.getElem?_cons_succ, beq_self_eq_true, gt_iff_lt, ble_dec, beq_dec, List.head?_cons, AV.undef, eq_self, ne_eq, not_true_eq_false, not_false_eq_true, Int.reduceLT, Int.reduceLE, Int.reduceToNat, Int.reduceEq, Int.reduceNeg, Nat.reduceAdd, Nat.reduceLT, Nat.reduceLeDiff, Nat.reduceMul, Nat.reduceSub, AV.cells, AV.tup, Bool.true_and, true_and, and_true, List.drop_nil, List.append_nil, rd_put, rd_alloc, rdO, St.get_put, St.get_alloc, St.next_put, St.next_alloc, St.wr, Bool.and_self, Bool.and_true, List.length_cons, List.length_nil, List.take_succ_cons, List.take_zero, List.drop_succ_cons, List.drop_zero, List.cons_append, List.nil_append, Nat.zero_add, Nat.add_zero, Nat.reduceMul, t5, t6, t7, t8, t9, t10, hm, c0]
      refine ⟨?_, ?_, ?_, ?_, x0, j, x, ?_, ?_, hj, hx, hv'⟩ <;> simp only [Tr.get_set, Nat.reduceEqDiff, if_false, if_true, t5, t6, t7, t8, t9, t10]
  · have c0 : (j : Int) < (l.length : Int) := by omega
    have c1 : (j : Int) < 8 := by omega
    have hjl : j < l.length := by omega
    obtain ⟨S1, r1, x1⟩ := T12 (k + 60) (c := c) (h.ext x0) hr (a := (j : Int)) (n := 1) ⟨by omega, by omega⟩ ⟨by decide, by decide⟩
    obtain ⟨g1, g2⟩ := get_one hm hjl
    have hb := h.bd l[j] (List.getElem_mem hjl)
    have hel : ((l.take 8)[j]'(by rw [List.length_take]; omega)) = l[j] := List.getElem_take
    obtain ⟨b, hbb⟩ : ∃ b, l[j] = b := ⟨_, rfl⟩
    rw [hbb] at hb g1 hel
    rw [g1, g2] at r1
    have r1 : evF X0 AP (k + 80) 12 [.slice p l.length e c, .int .i64 j, .int .i64 1] S = _ := r1
    obtain ⟨s1, s2, s3, s4⟩ := or_step hx (by omega) hb
    have w1 : IntKind.i64.wrap ((j : Int) + 1) = ((j + 1 : Nat) : Int) := w64_id (by omega) (by omega)
    have cs : ¬ (8 : Int) < 0 := by decide
    simp -implicitDefEqProofs -dsimp (maxSteps := 10000000) only [af7_l0, ↓goes_loop, ↓goes_seq, ↓goes_reg, ↓goes_dreg, ↓goes_cond, ↓goes_block, ↓goes_skip, ↓goes_exit, ↓goes_ret, after_some, br_true, br_false, ↓then_normal, ↓then_exit, ↓then_ret, ↓blk_normal, ↓blk_exit, ↓blk_ret, ↓blk_other, ops_nil, ops_some, ops_none, oper_none, oper_some, gd_tt, gd_ff, gd_tf, gd_ft, gd_undef, ↓any_op, ↓any_call, ↓any_callV, ↓any_invoke, xo_t, xo_c, args_nil, args_cons, bin_add, bin_sub, bin_mul, bin_quo, bin_rem, bin_and, bin_or, bin_xor, bin_andNot, bin_eql, bin_neq, bin_lss, bin_leq, bin_gtr, bin_geq, bin_shl, bin_shr, bin_bools, bin_strs, bin_ptrs, bin_slices, bin_aggs, ↓Option.bind_some, ↓Option.map_some, ↓cond_true, ↓cond_false, evC, evOp, XO.lit, setArgs, Tr.get_set, Option.bind_some, Option.map_some, cond_true, cond_false, maxI, maxFrom, minI, minFrom, aConv, aBinE, aEq, eqScal, aUn, evRes, fin, oneOf, if_true, if_false, callee, reduceCtorEq, Nat.reduceEqDiff, and_self, decide_true, decide_false, beq_true, beq_false, Bool.not_true, Bool.not_false, List.getElem?_cons_zero, List.getElem?_cons_succ, beq_self_eq_true, gt_iff_lt, ble_dec, beq_dec, List.head?_cons, AV.undef, eq_self, ne_eq, not_true_eq_false, not_false_eq_true, Int.reduceLT, Int.reduceLE, Int.reduceToNat, Int.reduceEq, Int.reduceNeg, Nat.reduceAdd, Nat.reduceLT, Nat.reduceLeDiff, Nat.reduceMul, Nat.reduceSub, AV.cells, AV.tup, Bool.true_and, true_and, and_true, List.drop_nil, List.append_nil, rd_put, rd_alloc, rdO, St.get_put, St.get_alloc, St.next_put, St.next_alloc, St.wr, Bool.and_self, Bool.and_true, List.length_cons, List.length_nil, List.take_succ_cons, List.take_zero, List.drop_succ_cons, List.drop_zero, List.cons_append, List.nil_append, Nat.zero_add, Nat.add_zero, Nat.reduceMul, t5, t6, t7, t8, t9, t10, hm, c0, c1, r1, cs, s1, s3, w1]
    refine ⟨m, ⟨?_, ?_, ?_, ?_, x0.trans x1, j + 1, x * 256 + b, ?_, ?_, by omega, s4, ?_⟩, Nat.lt_succ_self m⟩
    rotate_right
    · rw [← hv', List.drop_eq_getElem_cons (show j < (l.take 8).length by rw [List.length_take]; omega), hvF_cons, hel]
    all_goals simp only [Tr.get_set, Nat.reduceEqDiff, if_false, if_true, t5, t6, t7, t8, t9, t10]
set_option maxHeartbeats 4000000 in
theorem ev7 (h : By S p e l) (hr : l.length ≤ 140737488351400) {t : Int} :
    ∃ S', evF X0 AP (k + 81) 7 [.slice p l.length e c, .int .i64 t] S = some (.bool true, S') := by
  suffices hh : ∃ v S', evF X0 AP (k + 81) 7 [.slice p l.length e c, .int .i64 t] S = some (v, S') ∧ v = .bool true by
    obtain ⟨v, S', h1, rfl⟩ := hh; exact ⟨S', h1⟩
  have q1 := T10 (k + 76) S (n := t) (lo := 1) (hi := 64) (by omega) (by omega) (by omega)
  have b1 := within_bd t (lo := 1) (hi := 64) (by omega)
  obtain ⟨z, hz⟩ : ∃ z, within t 1 64 = z := ⟨_, rfl⟩
  rw [hz] at q1 b1
  have q1 : evF X0 AP (k + 80) 10 [.int .i64 t, .int .i64 1, .int .i64 64] S = _ := q1
  obtain ⟨v1, S1, r1, hb1, x1⟩ := T13 (k + 10) (c := c) h (by omega) (to := z)
  have r1 : evF X0 AP (k + 80) 13 [.slice p l.length e c, .int .i64 z] S = _ := r1
  obtain ⟨p1, e1, c1, rfl, hb1⟩ := hb1
  have htw := padL_twice l b1.1 b1.2
  have hql : (padL l z).length ≤ 140737488351500 := by
    unfold padL; split
    · omega
    · have hp := padN_lt l.length (t := z.toNat) (by omega)
      rw [List.length_append, List.length_replicate]; omega
  generalize padL l z = q at *
  have hm : q.length ≤ 9223372036854775807 := by omega
  obtain ⟨d, hd⟩ : ∃ d : Int, (if (8 : Int) < (q.length : Int) then 8 else (q.length : Int)) = d := ⟨_, rfl⟩
  have hd' : d = ((min q.length 8 : Nat) : Int) := by rw [← hd]; split <;> omega
  obtain ⟨S2, r2, x2⟩ := T12 (k + 60) (c := c1) hb1 hql (a := 0) (n := d) ⟨by decide, by decide⟩ ⟨by omega, by omega⟩
  have r2 : evF X0 AP (k + 80) 12 [.slice p1 q.length e1 c1, .int .i64 0, .int .i64 d] S1 = _ := r2
  have g1 : getL q 0 d = hv (q.take 8) := by
    have k1 : cutOk q 0 d := by unfold cutOk; omega
    by_cases h0 : q.length = 0
    · have : q = [] := List.length_eq_zero_iff.1 h0
      subst this
      rw [getL, if_neg (by simp at hd'; omega)]; rfl
    · rw [getL, if_pos ⟨k1, by omega, by omega⟩, cutL, if_pos k1, hd']
      show hv (q.take (min q.length 8)) = _
      rw [show min q.length 8 = min 8 q.length by omega, ← List.take_eq_take_min]
  have g2 : getOk q 0 d = decide ((0 : Int) < (q.length : Int)) := by
    have k1 : cutOk q 0 d := by unfold cutOk; omega
    unfold getOk
    by_cases h0 : q.length = 0
    · rw [decide_eq_false (by omega), decide_eq_false (by omega)]
    · rw [decide_eq_true ⟨k1, by omega, by omega⟩, decide_eq_true (by omega)]
  rw [g1, g2] at r2
  refine evF_goes (af := af7) (k := k + 80) rfl rfl rfl ?_
  simp -implicitDefEqProofs -dsimp (maxSteps := 10000000) only [af7, ↓goes_loop, ↓goes_seq, ↓goes_reg, ↓goes_dreg, ↓goes_cond, ↓goes_block, ↓goes_skip, ↓goes_exit, ↓goes_ret, after_some, br_true, br_false, ↓then_normal, ↓then_exit, ↓then_ret, ↓blk_normal, ↓blk_exit, ↓blk_ret, ↓blk_other, ops_nil, ops_some, ops_none, oper_none, oper_some, gd_tt, gd_ff, gd_tf, gd_ft, gd_undef, ↓any_op, ↓any_call, ↓any_callV, ↓any_invoke, xo_t, xo_c, args_nil, args_cons, bin_add, bin_sub, bin_mul, bin_quo, bin_rem, bin_and, bin_or, bin_xor, bin_andNot, bin_eql, bin_neq, bin_lss, bin_leq, bin_gtr, bin_geq, bin_shl, bin_shr, bin_bools, bin_strs, bin_ptrs, bin_slices, bin_aggs, ↓Option.bind_some, ↓Option.map_some, ↓cond_true, ↓cond_false, evC, evOp, XO.lit, setArgs, Tr.tabG, Tr.tabS, Tr.tabL, Tr.get_lf, Option.bind_some, Option.map_some, cond_true, cond_false, maxI, maxFrom, minI, minFrom, aConv, aBinE, aEq, eqScal, aUn, evRes, fin, oneOf, if_true, if_false, callee, reduceCtorEq, Nat.reduceEqDiff, and_self, decide_true, decide_false, beq_true, beq_false, Bool.not_true, Bool.not_false, List.getElem?_cons_zero, List.getElem?_cons_succ, beq_self_eq_true, gt_iff_lt, ble_dec, beq_dec, List.head?_cons, AV.undef, eq_self, ne_eq, not_true_eq_false, not_false_eq_true, Int.reduceLT, Int.reduceLE, Int.reduceToNat, Int.reduceEq, Int.reduceNeg, Nat.reduceAdd, Nat.reduceLT, Nat.reduceLeDiff, Nat.reduceMul, Nat.reduceSub, q1, r1, hm, hd, r2]
  refine .while (I7 p1 e1 c1 q z (hv (q.take 8)) (decide ((0 : Int) < (q.length : Int))) S2) id (min q.length 8) ⟨rfl, rfl, rfl, rfl, .refl _, 0, 0, rfl, rfl, by omega, by decide, rfl⟩ (by show min q.length 8 < k + 80; omega)
    fun m T2 S3 h2 => (round7 k (hb1.ext x2) hql m T2 S3 h2).mono ?_
  intro r T' S' hq
  cases r with
  | normal => exact hq
  | ret => exact absurd hq.1 (by simp)
  | exit i =>
    obtain ⟨hi, t5, t6, t7, t8, x3, j, x, t10, t9, hj, hx, hxv⟩ := hq
    cases hi
    have hxe : x = hv (q.take 8) := by
      rw [← hxv, List.drop_of_length_le (by rw [List.length_take]; omega)]; rfl
    subst hxe
    have hb2 := (hb1.ext x2).ext x3
    obtain ⟨v4, S4, r4, hb4, x4⟩ := T13 (k + 10) (c := c1) hb2 hql (to := z)
    have r4 : evF X0 AP (k + 80) 13 [.slice p1 q.length e1 c1, .int .i64 z] S' = _ := r4
    obtain ⟨S5, r5, x5⟩ := T9 (S := S4) k
    rw [htw] at hb4
    have s4 := hb4.str
    have s1 := (hb2.ext x4).str c1
    have s0 := hb2.str c1
    simp -implicitDefEqProofs -dsimp (maxSteps := 10000000) only [↓goes_loop, ↓goes_seq, ↓goes_reg, ↓goes_dreg, ↓goes_cond, ↓goes_block, ↓goes_skip, ↓goes_exit, ↓goes_ret, after_some, br_true, br_false, ↓then_normal, ↓then_exit, ↓then_ret, ↓blk_normal, ↓blk_exit, ↓blk_ret, ↓blk_other, ops_nil, ops_some, ops_none, oper_none, oper_some, gd_tt, gd_ff, gd_tf, gd_ft, gd_undef, ↓any_op, ↓any_call, ↓any_callV, ↓any_invoke, xo_t, xo_c, args_nil, args_cons, bin_add, bin_sub, bin_mul, bin_quo, bin_rem, bin_and, bin_or, bin_xor, bin_andNot, bin_eql, bin_neq, bin_lss, bin_leq, bin_gtr, bin_geq, bin_shl, bin_shr, bin_bools, bin_strs, bin_ptrs, bin_slices, bin_aggs, ↓Option.bind_some, ↓Option.map_some, ↓cond_true, ↓cond_false, evC, evOp, XO.lit, setArgs, Tr.get_set, Option.bind_some, Option.map_some, cond_true, cond_false, maxI, maxFrom, minI, minFrom, aBinE, aEq, eqScal, aUn, evRes, fin, oneOf, if_true, if_false, callee, reduceCtorEq, Nat.reduceEqDiff, and_self, decide_true, decide_false, beq_true, beq_false, Bool.not_true, Bool.not_false, List.getElem?_cons_zero, List.getElem?_cons_succ, beq_self_eq_true, gt_iff_lt, ble_dec, beq_dec, List.head?_cons, AV.undef, eq_self, ne_eq, not_true_eq_false, not_false_eq_true, Int.reduceLT, Int.reduceLE, Int.reduceToNat, Int.reduceEq, Int.reduceNeg, Nat.reduceAdd, Nat.reduceLT, Nat.reduceLeDiff, Nat.reduceMul, Nat.reduceSub, ↓evDraw_nil, putD, evDraw, trace, List.all_cons, List.all_nil, chk, stAt, again, sameV, sameA, AV.undef, Bool.and_self, Bool.and_true, decide_eq_true_eq, List.getElem?_nil, t5, t6, t7, t8, t9, r4, r5, s4, s1, s0, hm, aStr, eqStr_refl]
    exact ⟨_, _, rfl, rfl⟩
theorem law7 {p : Option (Nat × Nat × Nat)} {len : Nat} {xs : List AV} (h : Arg p 0 len [.int .u8] xs) (hr : len * 1 ≤ 140737488351232) {t : Int} (_ : (Lit.int .i64 t).wf = true) :
    ∃ S', evF X0 AP (0 + 81) 7 [.slice p len 1 none, .int .i64 t] (S0.alloc (.cells xs 0 0 false)) = some (.bool true, S') := by
  obtain ⟨l, rfl, hb⟩ := By.of_arg (S := S0.alloc (.cells xs 0 0 false)) h (by rw [St.get_alloc]; rfl) (Nat.lt_succ_self 0)
  exact ev7 0 (c := none) hb (by omega)
end
end Go.Proofs.YtgplnlhbloamaaaA
