/- Chapter 13: what bounds, by the reference. -/
import Derived.Test.YtkbooepiomobdaaBdG
set_option linter.unusedVariables false
set_option linter.unusedSimpArgs false
set_option maxRecDepth 10000
namespace Go.Proofs.YtkbooepiomobdaaA
open Go.RowKit
attribute [local congr] bind_congr1 map_congr1 cond_congr1 withX_congr after_congr br_congr gd_congr

def meetT (l : List Tp) (s : Tp) : Tp := if nextB l s = true then bestP l s else ⟨0, 0, 0⟩
set_option maxHeartbeats 4000000 in
theorem T32 (k : Nat) {S : St} {p : Option (Nat × Nat × Nat)} {c : Option Nat} {e : Nat} {l : List Tp} {s : Tp} (h : Ty S p e l) (hn : l.length ≤ 1000) (hl : ∀ t ∈ l, OkH t) (ks : OkH s) (hi : InvL l s) :
    ∃ S', evF Y AP (k + 1101) 32 [.slice p l.length e c, tpv s] S = some (.tuple [tpv (meetT l s), .bool (nextB l s)], S') ∧ Ext S S' := by
  have hmx := h.mx
  suffices hh : ∃ v' S', evF Y AP (k + 1101) 32 [.slice p l.length e c, tpv s] S = some (v', S') ∧ v' = .tuple [tpv (meetT l s), .bool (nextB l s)] ∧ Ext S S' by
    obtain ⟨v', S', h1, rfl, h2⟩ := hh; exact ⟨S', h1, h2⟩
  obtain ⟨A, hA⟩ : ∃ A, ((S.alloc (.cells [.int .u32 s.o, .int .u64 s.r, .int .i64 s.v] 0 0 true)).alloc (.cells [.int .u32 0, .int .u64 0, .int .i64 0] 0 0 true)).alloc (.cells [.int .u32 0, .int .u64 0, .int .i64 0] 0 0 true) = A := ⟨_, rfl⟩
  have eA : Ext S A := by rw [← hA]; exact ((Ext.alloc _ _).then_alloc _).then_alloc _
  have nA : A.next = S.next + 3 := by rw [← hA]; rfl
  have g3 : A.get S.next = some (cell s) := by
    rw [← hA, St.get_alloc, if_neg (by show ¬ S.next = S.next + 1 + 1; omega), St.get_alloc, if_neg (by show ¬ S.next = S.next + 1; omega), St.get_alloc, if_pos rfl]; rfl
  have g4 : A.get (S.next + 1) = some (cell ⟨0, 0, 0⟩) := by
    rw [← hA, St.get_alloc, if_neg (by show ¬ S.next + 1 = S.next + 1 + 1; omega), St.get_alloc]; exact if_pos rfl
  have g6 : A.get (S.next + 2) = some (cell ⟨0, 0, 0⟩) := by rw [← hA, St.get_alloc]; exact if_pos rfl
  refine evF_goes (af := af32) (k := k + 1100) rfl rfl rfl ?_
  simp -implicitDefEqProofs -dsimp (maxSteps := 10000000) only [af32, ↓goes_loop, ↓goes_seq, ↓goes_reg, ↓goes_dreg, ↓goes_cond, ↓goes_block, ↓goes_skip, ↓goes_exit, ↓goes_ret, after_some, br_true, br_false, ↓then_normal, ↓then_exit, ↓then_ret, ↓blk_normal, ↓blk_exit, ↓blk_ret, ↓blk_other, ops_nil, ops_some, ops_none, oper_none, oper_some, gd_tt, gd_ff, gd_tf, gd_ft, gd_undef, ↓any_op, ↓any_call, ↓any_callV, ↓any_invoke, xo_t, xo_c, args_nil, args_cons, bin_add, bin_sub, bin_mul, bin_quo, bin_rem, bin_and, bin_or, bin_xor, bin_andNot, bin_eql, bin_neq, bin_lss, bin_leq, bin_gtr, bin_geq, bin_shl, bin_shr, bin_bools, bin_strs, bin_ptrs, bin_slices, bin_aggs, ↓Option.bind_some, ↓Option.map_some, ↓cond_true, ↓cond_false, evC, evOp, XO.lit, setArgs, Tr.tabG, Tr.tabS, Tr.tabL, Tr.get_lf, Option.bind_some, Option.map_some, cond_true, cond_false, maxI, maxFrom, minI, minFrom, aConv, aBinE, aEq, eqScal, aUn, evRes, fin, oneOf, if_true, if_false, callee, reduceCtorEq, Nat.reduceEqDiff, and_self, decide_true, decide_false, beq_true, beq_false, Bool.not_true, Bool.not_false, List.getElem?_cons_zero, List.getElem?_cons_succ, beq_self_eq_true, gt_iff_lt, ble_dec, beq_dec, List.head?_cons, AV.undef, eq_self, ne_eq, not_true_eq_false, not_false_eq_true, Int.reduceLT, Int.reduceLE, Int.reduceToNat, Int.reduceEq, Int.reduceNeg, Nat.reduceAdd, Nat.reduceLT, Nat.reduceLeDiff, Nat.reduceMul, Nat.reduceSub, AV.cells, AV.tup, Bool.true_and, true_and, and_true, List.drop_nil, List.append_nil, rd_put, rd_alloc, rdO, St.get_put, St.get_alloc, St.next_put, St.next_alloc, St.wr, Bool.and_self, Bool.and_true, List.length_cons, List.length_nil, List.take_succ_cons, List.take_zero, List.drop_succ_cons, List.drop_zero, List.cons_append, List.nil_append, Nat.zero_add, Nat.add_zero, Nat.reduceMul, aFill, evParts, rep, List.replicate_succ, List.replicate_zero, List.flatten_cons, List.flatten_nil, List.append_nil, newSl, newVar, hmx, hA]
  refine .while (I32 p c e s l S) id l.length ⟨rfl, rfl, rfl, rfl, rfl, eA, by omega, g3, g4, 0, rfl, by omega, rfl, g6⟩ (by show l.length < k + 1100; omega) fun m2 T2 S2 h2 => (round32 k h hl ks hi m2 T2 S2 h2).mono ?_
  intro r T' S' hq
  cases r with
  | normal => exact hq
  | ret => exact absurd hq.1 (by simp)
  | exit i =>
    obtain ⟨hi2, t3, t4, t6, t14, t15, ex, nx, g3, g4, j, t16, hm, t7, g6⟩ := hq
    cases hi2
    obtain rfl : j = l.length := by omega
    rw [List.take_length] at t7 g6
    by_cases c1 : restP l s = []
    · have hB : nextB l s = false := by unfold nextB; rw [c1]; rfl
      have hT : meetT l s = ⟨0, 0, 0⟩ := by unfold meetT; rw [hB]; rfl
      rw [c1] at t7
      have t7 : T'.get 7 = some (.bool false) := t7
      simp -implicitDefEqProofs -dsimp (maxSteps := 10000000) only [↓goes_loop, ↓goes_seq, ↓goes_reg, ↓goes_dreg, ↓goes_cond, ↓goes_block, ↓goes_skip, ↓goes_exit, ↓goes_ret, after_some, br_true, br_false, ↓then_normal, ↓then_exit, ↓then_ret, ↓blk_normal, ↓blk_exit, ↓blk_ret, ↓blk_other, ops_nil, ops_some, ops_none, oper_none, oper_some, gd_tt, gd_ff, gd_tf, gd_ft, gd_undef, ↓any_op, ↓any_call, ↓any_callV, ↓any_invoke, xo_t, xo_c, args_nil, args_cons, bin_add, bin_sub, bin_mul, bin_quo, bin_rem, bin_and, bin_or, bin_xor, bin_andNot, bin_eql, bin_neq, bin_lss, bin_leq, bin_gtr, bin_geq, bin_shl, bin_shr, bin_bools, bin_strs, bin_ptrs, bin_slices, bin_aggs, ↓Option.bind_some, ↓Option.map_some, ↓cond_true, ↓cond_false, evC, evOp, XO.lit, setArgs, Tr.get_set, Option.bind_some, Option.map_some, cond_true, cond_false, maxI, maxFrom, minI, minFrom, aConv, aBinE, aEq, eqScal, aUn, evRes, fin, oneOf, if_true, if_false, callee, reduceCtorEq, Nat.reduceEqDiff, and_self, decide_true, decide_false, beq_true, beq_false, Bool.not_true, Bool.not_false, List.getElem?_cons_zero, List.getElem?_cons_succ, beq_self_eq_true, gt_iff_lt, ble_dec, beq_dec, List.head?_cons, AV.undef, eq_self, ne_eq, not_true_eq_false, not_false_eq_true, Int.reduceLT, Int.reduceLE, Int.reduceToNat, Int.reduceEq, Int.reduceNeg, Nat.reduceAdd, Nat.reduceLT, Nat.reduceLeDiff, Nat.reduceMul, Nat.reduceSub, AV.cells, AV.tup, Bool.true_and, true_and, and_true, List.drop_nil, List.append_nil, rd_put, rd_alloc, rdO, St.get_put, St.get_alloc, St.next_put, St.next_alloc, St.wr, Bool.and_self, Bool.and_true, List.length_cons, List.length_nil, List.take_succ_cons, List.take_zero, List.drop_succ_cons, List.drop_zero, List.cons_append, List.nil_append, Nat.zero_add, Nat.add_zero, Nat.reduceMul, aFill, evParts, rep, List.replicate_succ, List.replicate_zero, List.flatten_cons, List.flatten_nil, List.append_nil, newSl, newVar, t4, t7, Bool.not_false, g4, cell]
      exact ⟨_, _, rfl, by rw [hB, hT], ex.then_put (by omega) _⟩
    · have hie : (restP l s).isEmpty = false := List.isEmpty_eq_false_iff.2 c1
      rw [hie] at t7
      have t7 : T'.get 7 = some (.bool true) := t7
      have hsf : soFar l s = bestP l s := by unfold soFar; rw [hie]; rfl
      rw [hsf] at g6
      obtain ⟨hb1, hb2⟩ := best_mem c1
      have kb := hl _ hb1
      have rb := hi _ hb1 hb2
      have hB : nextB l s = decide (s.v * ((bestP l s).r - s.r) < s.r * ((bestP l s).v - s.v)) := by unfold nextB; rw [hie]; rfl
      unfold meetT
      rw [hB]
      obtain ⟨b, hbb⟩ : ∃ b, bestP l s = b := ⟨_, rfl⟩
      rw [hbb] at kb rb hb2 g6
      rw [hbb]
      have := ks.r0; have := ks.r1; have := kb.r1; have := ks.v0; have := kb.v1
      have w1 : IntKind.u64.wrap (b.r - s.r) = b.r - s.r := u64_id (by omega) (by omega)
      have w2 : IntKind.i64.wrap (b.r - s.r) = b.r - s.r := i64_id (by omega) (by omega)
      have w3 : IntKind.i64.wrap s.r = s.r := i64_id (by omega) (by omega)
      have w4 : IntKind.i64.wrap (b.v - s.v) = b.v - s.v := i64_id (by omega) (by omega)
      have y1 : ∀ S, evF Y AP (k + 1100) 44 [.int .i64 s.v, .int .i64 (b.r - s.r), .int .i64 s.r, .int .i64 (b.v - s.v)] S = some (.bool (decide (s.v * (b.r - s.r) < s.r * (b.v - s.v))), S) := fun S => by
        rw [show evF Y AP (k + 1100) 44 _ S = _ from y44 (k + 1099) S _ _ _ _, up_pos (by omega), up_pos (by omega), up_pos (by omega), up_pos (by omega)]
      have r3 : ∀ v i m, S'.rd S.next v i m = rdO (cell s) v i m := rd_of g3
      have r6 : ∀ v i m, S'.rd (S.next + 2) v i m = rdO (cell b) v i m := rd_of g6
      by_cases c2 : s.v * (b.r - s.r) < s.r * (b.v - s.v)
      · simp -implicitDefEqProofs -dsimp (maxSteps := 10000000) only [↓goes_loop, ↓goes_seq, ↓goes_reg, ↓goes_dreg, ↓goes_cond, ↓goes_block, ↓goes_skip, ↓goes_exit, ↓goes_ret, after_some, br_true, br_false, ↓then_normal, ↓then_exit, ↓then_ret, ↓blk_normal, ↓blk_exit, ↓blk_ret, ↓blk_other, ops_nil, ops_some, ops_none, oper_none, oper_some, gd_tt, gd_ff, gd_tf, gd_ft, gd_undef, ↓any_op, ↓any_call, ↓any_callV, ↓any_invoke, xo_t, xo_c, args_nil, args_cons, bin_add, bin_sub, bin_mul, bin_quo, bin_rem, bin_and, bin_or, bin_xor, bin_andNot, bin_eql, bin_neq, bin_lss, bin_leq, bin_gtr, bin_geq, bin_shl, bin_shr, bin_bools, bin_strs, bin_ptrs, bin_slices, bin_aggs, ↓Option.bind_some, ↓Option.map_some, ↓cond_true, ↓cond_false, evC, evOp, XO.lit, setArgs, Tr.get_set, Option.bind_some, Option.map_some, cond_true, cond_false, maxI, maxFrom, minI, minFrom, aConv, aBinE, aEq, eqScal, aUn, evRes, fin, oneOf, if_true, if_false, callee, reduceCtorEq, Nat.reduceEqDiff, and_self, decide_true, decide_false, beq_true, beq_false, Bool.not_true, Bool.not_false, List.getElem?_cons_zero, List.getElem?_cons_succ, beq_self_eq_true, gt_iff_lt, ble_dec, beq_dec, List.head?_cons, AV.undef, eq_self, ne_eq, not_true_eq_false, not_false_eq_true, Int.reduceLT, Int.reduceLE, Int.reduceToNat, Int.reduceEq, Int.reduceNeg, Nat.reduceAdd, Nat.reduceLT, Nat.reduceLeDiff, Nat.reduceMul, Nat.reduceSub, AV.cells, AV.tup, Bool.true_and, true_and, and_true, List.drop_nil, List.append_nil, rd_put, rd_alloc, rdO, St.get_put, St.get_alloc, St.next_put, St.next_alloc, St.wr, Bool.and_self, Bool.and_true, List.length_cons, List.length_nil, List.take_succ_cons, List.take_zero, List.drop_succ_cons, List.drop_zero, List.cons_append, List.nil_append, Nat.zero_add, Nat.add_zero, Nat.reduceMul, aFill, evParts, rep, List.replicate_succ, List.replicate_zero, List.flatten_cons, List.flatten_nil, List.append_nil, newSl, newVar, t3, t4, t6, t7, Bool.not_true, Bool.not_false, r3, r6, cell, w1, w2, w3, w4, y1, c2, g4]
        exact ⟨_, _, rfl, rfl, ex.then_put (by omega) _⟩
      · simp -implicitDefEqProofs -dsimp (maxSteps := 10000000) only [↓goes_loop, ↓goes_seq, ↓goes_reg, ↓goes_dreg, ↓goes_cond, ↓goes_block, ↓goes_skip, ↓goes_exit, ↓goes_ret, after_some, br_true, br_false, ↓then_normal, ↓then_exit, ↓then_ret, ↓blk_normal, ↓blk_exit, ↓blk_ret, ↓blk_other, ops_nil, ops_some, ops_none, oper_none, oper_some, gd_tt, gd_ff, gd_tf, gd_ft, gd_undef, ↓any_op, ↓any_call, ↓any_callV, ↓any_invoke, xo_t, xo_c, args_nil, args_cons, bin_add, bin_sub, bin_mul, bin_quo, bin_rem, bin_and, bin_or, bin_xor, bin_andNot, bin_eql, bin_neq, bin_lss, bin_leq, bin_gtr, bin_geq, bin_shl, bin_shr, bin_bools, bin_strs, bin_ptrs, bin_slices, bin_aggs, ↓Option.bind_some, ↓Option.map_some, ↓cond_true, ↓cond_false, evC, evOp, XO.lit, setArgs, Tr.get_set, Option.bind_some, Option.map_some, cond_true, cond_false, maxI, maxFrom, minI, minFrom, aConv, aBinE, aEq, eqScal, aUn, evRes, fin, oneOf, if_true, if_false, callee, reduceCtorEq, Nat.reduceEqDiff, and_self, decide_true, decide_false, beq_true, beq_false, Bool.not_true, Bool.not_false, List.getElem?_cons_zero, List.getElem?_cons_succ, beq_self_eq_true, gt_iff_lt, ble_dec, beq_dec, List.head?_cons, AV.undef, eq_self, ne_eq, not_true_eq_false, not_false_eq_true, Int.reduceLT, Int.reduceLE, Int.reduceToNat, Int.reduceEq, Int.reduceNeg, Nat.reduceAdd, Nat.reduceLT, Nat.reduceLeDiff, Nat.reduceMul, Nat.reduceSub, AV.cells, AV.tup, Bool.true_and, true_and, and_true, List.drop_nil, List.append_nil, rd_put, rd_alloc, rdO, St.get_put, St.get_alloc, St.next_put, St.next_alloc, St.wr, Bool.and_self, Bool.and_true, List.length_cons, List.length_nil, List.take_succ_cons, List.take_zero, List.drop_succ_cons, List.drop_zero, List.cons_append, List.nil_append, Nat.zero_add, Nat.add_zero, Nat.reduceMul, aFill, evParts, rep, List.replicate_succ, List.replicate_zero, List.flatten_cons, List.flatten_nil, List.append_nil, newSl, newVar, t3, t4, t6, t7, Bool.not_true, Bool.not_false, r3, r6, cell, w1, w2, w3, w4, y1, c2, g4]
        refine ⟨_, _, rfl, ?_, ex.then_put (by omega) _⟩
        simp only [Bool.false_eq_true, if_false]
/-! ### The reference's Set -/
structure I17a (p : Option (Nat × Nat × Nat)) (e : Nat) (l : List Tp) (Sb : St) (m : Nat) (T : Tm) (S : St) : Prop where
  t0 : T.get 0 = some (.slice p l.length e none)
  t3 : T.get 3 = some (pt3 Sb.next)
  t17 : T.get 17 = some (.slice p l.length e none)
  t18 : T.get 18 = some (.int .i64 l.length)
  ext : Ext Sb S
  nx : Sb.next + 1 ≤ S.next
  more : ∃ j : Nat, T.get 19 = some (.int .i64 j) ∧ j + m = l.length ∧ S.get Sb.next = some (cell (minL (ltI leastI) (l.take (max j 1))))
set_option maxHeartbeats 16000000 in
theorem round17a (k : Nat) {p : Option (Nat × Nat × Nat)} {e : Nat} {l : List Tp} {Sb : St} (h : Ty Sb p e l) (h0 : 0 < l.length) (m : Nat) (T : Tm) (S : St) (hI : I17a p e l Sb m T S) :
    Goes (evF Y AP (k + 1101)) (k + 1101) af17_l1 T S (Then (fun T' S' => ∃ m', I17a p e l Sb m' T' S' ∧ id m' < id m) fun r T' S' => r = .exit 0 ∧ I17a p e l Sb 0 T' S') := by
  obtain ⟨t0, t3, t17, t18, ex, nx, j, t19, hm, g3⟩ := hI
  by_cases c1 : (j : Int) < (l.length : Int)
  rotate_left
  · simp -implicitDefEqProofs -dsimp (maxSteps := 10000000) only [af17_l1, ↓goes_loop, ↓goes_seq, ↓goes_reg, ↓goes_dreg, ↓goes_cond, ↓goes_block, ↓goes_skip, ↓goes_exit, ↓goes_ret, after_some, br_true, br_false, ↓then_normal, ↓then_exit, ↓then_ret, ↓blk_normal, ↓blk_exit, ↓blk_ret, ↓blk_other, ops_nil, ops_some, ops_none, oper_none, oper_some, gd_tt, gd_ff, gd_tf, gd_ft, gd_undef, ↓any_op, ↓any_call, ↓any_callV, ↓any_invoke, xo_t, xo_c, args_nil, args_cons, bin_add, bin_sub, bin_mul, bin_quo, bin_rem, bin_and, bin_or, bin_xor, bin_andNot, bin_eql, bin_neq, bin_lss, bin_leq, bin_gtr, bin_geq, bin_shl, bin_shr, bin_bools, bin_strs, bin_ptrs, bin_slices, bin_aggs, ↓Option.bind_some, ↓Option.map_some, ↓cond_true, ↓cond_false, evC, evOp, XO.lit, setArgs, Tr.get_set, Option.bind_some, Option.map_some, cond_true, cond_false, maxI, maxFrom, minI, minFrom, aConv, aBinE, aEq, eqScal, aUn, evRes, fin, oneOf, if_true, if_false, callee, reduceCtorEq, Nat.reduceEqDiff, and_self, decide_true, decide_false, beq_true, beq_false, Bool.not_true, Bool.not_false, List.getElem?_cons_zero, List.getElem?_cons_succ, beq_self_eq_true, gt_iff_lt, ble_dec, beq_dec, List.head?_cons, AV.undef, eq_self, ne_eq, not_true_eq_false, not_false_eq_true, Int.reduceLT, Int.reduceLE, Int.reduceToNat, Int.reduceEq, Int.reduceNeg, Nat.reduceAdd, Nat.reduceLT, Nat.reduceLeDiff, Nat.reduceMul, Nat.reduceSub, AV.cells, AV.tup, Bool.true_and, true_and, and_true, List.drop_nil, List.append_nil, rd_put, rd_alloc, rdO, St.get_put, St.get_alloc, St.next_put, St.next_alloc, St.wr, Bool.and_self, Bool.and_true, List.length_cons, List.length_nil, List.take_succ_cons, List.take_zero, List.drop_succ_cons, List.drop_zero, List.cons_append, List.nil_append, Nat.zero_add, Nat.add_zero, Nat.reduceMul, t18, t19, c1]
    refine ⟨?_, ?_, ?_, ?_, ex, nx, j, ?_, by omega, g3⟩ <;> simp only [Tr.get_set, Nat.reduceEqDiff, if_false, if_true, t0, t3, t17, t18, t19]
  have hj : j < l.length := by omega
  obtain ⟨o, v, i, rfl, rfl, ho⟩ := h.some_ (by omega)
  have hix : ixOf (.int .i64 (j : Int)) l.length = some j := by rw [ix_ok (by omega) c1]; rfl
  have wj : IntKind.i64.wrap ((j : Int) + 1) = ((j + 1 : Nat) : Int) := w64_id (by omega) (by have := h.mx; omega)
  have hz : S.rd o v (i + j * 3) 3 = some [.int .u32 l[j].o, .int .u64 l[j].r, .int .i64 l[j].v] := by rw [ex.rd ho]; exact h.get hj
  obtain ⟨b, hb⟩ : ∃ b, minL (ltI leastI) (l.take (max j 1)) = b := ⟨_, rfl⟩
  rw [hb] at g3
  have htk : minL (ltI leastI) (l.take (max (j + 1) 1)) = if ltI leastI l[j] b = true then l[j] else b := by
    rw [show max (j + 1) 1 = j + 1 by omega]
    by_cases hj0 : j = 0
    · subst hj0
      have hbe : b = l[0] := by
        rw [← hb]
        cases l with
        | nil => exact absurd h0 (Nat.lt_irrefl _)
        | cons x y => rfl
      rw [hbe, ord_least.ir, if_neg (by decide)]
      cases l with
      | nil => exact absurd h0 (Nat.lt_irrefl _)
      | cons x y => rfl
    · rw [show max j 1 = j by omega] at hb
      rw [minL_take (by omega) hj, hb]
  obtain ⟨a, ha⟩ : ∃ a, l[j] = a := ⟨_, rfl⟩
  rw [ha] at hz htk
  obtain ⟨A, hA⟩ : ∃ A, (S.alloc (.cells [.int .u32 0, .int .u64 0, .int .i64 0] 0 0 true)).put S.next (.cells [.int .u32 a.o, .int .u64 a.r, .int .i64 a.v] 0 0 true) = A := ⟨_, rfl⟩
  have eA : Ext S A := by rw [← hA]; exact (Ext.alloc S _).then_put (Nat.le_refl _) _
  have nA : A.next = S.next + 1 := by rw [← hA]; rfl
  have rA : ∀ v i m, A.rd S.next v i m = rdO (.cells [.int .u32 a.o, .int .u64 a.r, .int .i64 a.v] 0 0 true) v i m := rd_of (by rw [← hA, St.get_put, if_pos rfl])
  have g3A : A.get Sb.next = some (cell b) := eA.get (by omega) g3
  have rb : ∀ v i m, A.rd Sb.next v i m = rdO (cell b) v i m := rd_of g3A
  have slt := least_lt (a := a) (b := b)
  unfold tieL at slt
  have six : (a.r < b.r) ∨ (¬ a.r < b.r ∧ ¬ a.r = b.r) ∨ (¬ a.r < b.r ∧ a.r = b.r ∧ b.v < a.v) ∨ (¬ a.r < b.r ∧ a.r = b.r ∧ ¬ b.v < a.v ∧ ¬ a.v = b.v) ∨ (¬ a.r < b.r ∧ a.r = b.r ∧ ¬ b.v < a.v ∧ a.v = b.v ∧ a.o < b.o) ∨ (¬ a.r < b.r ∧ a.r = b.r ∧ ¬ b.v < a.v ∧ a.v = b.v ∧ ¬ a.o < b.o) := by omega
  rcases six with h1 | ⟨h1, h2⟩ | ⟨h1, h2, h3⟩ | ⟨h1, h2, h3, h4⟩ | ⟨h1, h2, h3, h4, h5⟩ | ⟨h1, h2, h3, h4, h5⟩
  · have hlt : ltI leastI a b = true := slt.2 (by omega)
    rw [if_pos hlt] at htk
    simp -implicitDefEqProofs -dsimp (maxSteps := 10000000) only [af17_l1, ↓goes_loop, ↓goes_seq, ↓goes_reg, ↓goes_dreg, ↓goes_cond, ↓goes_block, ↓goes_skip, ↓goes_exit, ↓goes_ret, after_some, br_true, br_false, ↓then_normal, ↓then_exit, ↓then_ret, ↓blk_normal, ↓blk_exit, ↓blk_ret, ↓blk_other, ops_nil, ops_some, ops_none, oper_none, oper_some, gd_tt, gd_ff, gd_tf, gd_ft, gd_undef, ↓any_op, ↓any_call, ↓any_callV, ↓any_invoke, xo_t, xo_c, args_nil, args_cons, bin_add, bin_sub, bin_mul, bin_quo, bin_rem, bin_and, bin_or, bin_xor, bin_andNot, bin_eql, bin_neq, bin_lss, bin_leq, bin_gtr, bin_geq, bin_shl, bin_shr, bin_bools, bin_strs, bin_ptrs, bin_slices, bin_aggs, ↓Option.bind_some, ↓Option.map_some, ↓cond_true, ↓cond_false, evC, evOp, XO.lit, setArgs, Tr.get_set, Option.bind_some, Option.map_some, cond_true, cond_false, maxI, maxFrom, minI, minFrom, aConv, aBinE, aEq, eqScal, aUn, evRes, fin, oneOf, if_true, if_false, callee, reduceCtorEq, Nat.reduceEqDiff, and_self, decide_true, decide_false, beq_true, beq_false, Bool.not_true, Bool.not_false, List.getElem?_cons_zero, List.getElem?_cons_succ, beq_self_eq_true, gt_iff_lt, ble_dec, beq_dec, List.head?_cons, AV.undef, eq_self, ne_eq, not_true_eq_false, not_false_eq_true, Int.reduceLT, Int.reduceLE, Int.reduceToNat, Int.reduceEq, Int.reduceNeg, Nat.reduceAdd, Nat.reduceLT, Nat.reduceLeDiff, Nat.reduceMul, Nat.reduceSub, ↓evDraw_nil, bir, putD, evDraw, trace, List.all_cons, List.all_nil, chk, stAt, again, sameV, sameL, sameA, AV.undef, Bool.and_self, Bool.and_true, decide_eq_true_eq, List.getElem?_nil, AV.cells, AV.tup, Bool.true_and, true_and, and_true, List.drop_nil, List.append_nil, rd_put, rd_alloc, rdO, St.get_put, St.get_alloc, St.next_put, St.next_alloc, St.wr, Bool.and_self, Bool.and_true, List.length_cons, List.length_nil, List.take_succ_cons, List.take_zero, List.drop_succ_cons, List.drop_zero, List.cons_append, List.nil_append, Nat.zero_add, Nat.add_zero, Nat.reduceMul, aFill, evParts, rep, List.replicate_succ, List.replicate_zero, List.flatten_cons, List.flatten_nil, List.append_nil, newSl, newVar, t3, t17, t18, t19, c1, hix, hz, hA, rA, rb, cell, h1, g3A, wj]
    refine ⟨m - 1, ⟨?_, ?_, ?_, ?_, (ex.trans eA).then_put (Nat.le_refl _) _, by show Sb.next + 1 ≤ A.next; omega, j + 1, ?_, by omega, by rw [St.get_put, if_pos rfl, htk]; rfl⟩, by show m - 1 < m; omega⟩ <;> simp only [Tr.get_set, Nat.reduceEqDiff, if_false, if_true, t0, t3, t17, t18]
  · have hlt : ¬ ltI leastI a b = true := fun hh => by have := slt.1 hh; omega
    rw [if_neg hlt] at htk
    simp -implicitDefEqProofs -dsimp (maxSteps := 10000000) only [af17_l1, ↓goes_loop, ↓goes_seq, ↓goes_reg, ↓goes_dreg, ↓goes_cond, ↓goes_block, ↓goes_skip, ↓goes_exit, ↓goes_ret, after_some, br_true, br_false, ↓then_normal, ↓then_exit, ↓then_ret, ↓blk_normal, ↓blk_exit, ↓blk_ret, ↓blk_other, ops_nil, ops_some, ops_none, oper_none, oper_some, gd_tt, gd_ff, gd_tf, gd_ft, gd_undef, ↓any_op, ↓any_call, ↓any_callV, ↓any_invoke, xo_t, xo_c, args_nil, args_cons, bin_add, bin_sub, bin_mul, bin_quo, bin_rem, bin_and, bin_or, bin_xor, bin_andNot, bin_eql, bin_neq, bin_lss, bin_leq, bin_gtr, bin_geq, bin_shl, bin_shr, bin_bools, bin_strs, bin_ptrs, bin_slices, bin_aggs, ↓Option.bind_some, ↓Option.map_some, ↓cond_true, ↓cond_false, evC, evOp, XO.lit, setArgs, Tr.get_set, Option.bind_some, Option.map_some, cond_true, cond_false, maxI, maxFrom, minI, minFrom, aConv, aBinE, aEq, eqScal, aUn, evRes, fin, oneOf, if_true, if_false, callee, reduceCtorEq, Nat.reduceEqDiff, and_self, decide_true, decide_false, beq_true, beq_false, Bool.not_true, Bool.not_false, List.getElem?_cons_zero, List.getElem?_cons_succ, beq_self_eq_true, gt_iff_lt, ble_dec, beq_dec, List.head?_cons, AV.undef, eq_self, ne_eq, not_true_eq_false, not_false_eq_true, Int.reduceLT, Int.reduceLE, Int.reduceToNat, Int.reduceEq, Int.reduceNeg, Nat.reduceAdd, Nat.reduceLT, Nat.reduceLeDiff, Nat.reduceMul, Nat.reduceSub, ↓evDraw_nil, bir, putD, evDraw, trace, List.all_cons, List.all_nil, chk, stAt, again, sameV, sameL, sameA, AV.undef, Bool.and_self, Bool.and_true, decide_eq_true_eq, List.getElem?_nil, AV.cells, AV.tup, Bool.true_and, true_and, and_true, List.drop_nil, List.append_nil, rd_put, rd_alloc, rdO, St.get_put, St.get_alloc, St.next_put, St.next_alloc, St.wr, Bool.and_self, Bool.and_true, List.length_cons, List.length_nil, List.take_succ_cons, List.take_zero, List.drop_succ_cons, List.drop_zero, List.cons_append, List.nil_append, Nat.zero_add, Nat.add_zero, Nat.reduceMul, aFill, evParts, rep, List.replicate_succ, List.replicate_zero, List.flatten_cons, List.flatten_nil, List.append_nil, newSl, newVar, t3, t17, t18, t19, c1, hix, hz, hA, rA, rb, cell, h1, h2, wj]
    refine ⟨m - 1, ⟨?_, ?_, ?_, ?_, ex.trans eA, by omega, j + 1, ?_, by omega, by rw [htk]; exact g3A⟩, by show m - 1 < m; omega⟩ <;> simp only [Tr.get_set, Nat.reduceEqDiff, if_false, if_true, t0, t3, t17, t18]
  · have h2' := eq_true h2
    have hlt : ltI leastI a b = true := slt.2 (by omega)
    rw [if_pos hlt] at htk
    simp -implicitDefEqProofs -dsimp (maxSteps := 10000000) only [af17_l1, ↓goes_loop, ↓goes_seq, ↓goes_reg, ↓goes_dreg, ↓goes_cond, ↓goes_block, ↓goes_skip, ↓goes_exit, ↓goes_ret, after_some, br_true, br_false, ↓then_normal, ↓then_exit, ↓then_ret, ↓blk_normal, ↓blk_exit, ↓blk_ret, ↓blk_other, ops_nil, ops_some, ops_none, oper_none, oper_some, gd_tt, gd_ff, gd_tf, gd_ft, gd_undef, ↓any_op, ↓any_call, ↓any_callV, ↓any_invoke, xo_t, xo_c, args_nil, args_cons, bin_add, bin_sub, bin_mul, bin_quo, bin_rem, bin_and, bin_or, bin_xor, bin_andNot, bin_eql, bin_neq, bin_lss, bin_leq, bin_gtr, bin_geq, bin_shl, bin_shr, bin_bools, bin_strs, bin_ptrs, bin_slices, bin_aggs, ↓Option.bind_some, ↓Option.map_some, ↓cond_true, ↓cond_false, evC, evOp, XO.lit, setArgs, Tr.get_set, Option.bind_some, Option.map_some, cond_true, cond_false, maxI, maxFrom, minI, minFrom, aConv, aBinE, aEq, eqScal, aUn, evRes, fin, oneOf, if_true, if_false, callee, reduceCtorEq, Nat.reduceEqDiff, and_self, decide_true, decide_false, beq_true, beq_false, Bool.not_true, Bool.not_false, List.getElem?_cons_zero, List.getElem?_cons_succ, beq_self_eq_true, gt_iff_lt, ble_dec, beq_dec, List.head?_cons, AV.undef, eq_self, ne_eq, not_true_eq_false, not_false_eq_true, Int.reduceLT, Int.reduceLE, Int.reduceToNat, Int.reduceEq, Int.reduceNeg, Nat.reduceAdd, Nat.reduceLT, Nat.reduceLeDiff, Nat.reduceMul, Nat.reduceSub, ↓evDraw_nil, bir, putD, evDraw, trace, List.all_cons, List.all_nil, chk, stAt, again, sameV, sameL, sameA, AV.undef, Bool.and_self, Bool.and_true, decide_eq_true_eq, List.getElem?_nil, AV.cells, AV.tup, Bool.true_and, true_and, and_true, List.drop_nil, List.append_nil, rd_put, rd_alloc, rdO, St.get_put, St.get_alloc, St.next_put, St.next_alloc, St.wr, Bool.and_self, Bool.and_true, List.length_cons, List.length_nil, List.take_succ_cons, List.take_zero, List.drop_succ_cons, List.drop_zero, List.cons_append, List.nil_append, Nat.zero_add, Nat.add_zero, Nat.reduceMul, aFill, evParts, rep, List.replicate_succ, List.replicate_zero, List.flatten_cons, List.flatten_nil, List.append_nil, newSl, newVar, t3, t17, t18, t19, c1, hix, hz, hA, rA, rb, cell, h1, h2', h3, g3A, wj]
    refine ⟨m - 1, ⟨?_, ?_, ?_, ?_, (ex.trans eA).then_put (Nat.le_refl _) _, by show Sb.next + 1 ≤ A.next; omega, j + 1, ?_, by omega, by rw [St.get_put, if_pos rfl, htk]; rfl⟩, by show m - 1 < m; omega⟩ <;> simp only [Tr.get_set, Nat.reduceEqDiff, if_false, if_true, t0, t3, t17, t18]
  · have h2' := eq_true h2
    have hlt : ¬ ltI leastI a b = true := fun hh => by have := slt.1 hh; omega
    rw [if_neg hlt] at htk
    simp -implicitDefEqProofs -dsimp (maxSteps := 10000000) only [af17_l1, ↓goes_loop, ↓goes_seq, ↓goes_reg, ↓goes_dreg, ↓goes_cond, ↓goes_block, ↓goes_skip, ↓goes_exit, ↓goes_ret, after_some, br_true, br_false, ↓then_normal, ↓then_exit, ↓then_ret, ↓blk_normal, ↓blk_exit, ↓blk_ret, ↓blk_other, ops_nil, ops_some, ops_none, oper_none, oper_some, gd_tt, gd_ff, gd_tf, gd_ft, gd_undef, ↓any_op, ↓any_call, ↓any_callV, ↓any_invoke, xo_t, xo_c, args_nil, args_cons, bin_add, bin_sub, bin_mul, bin_quo, bin_rem, bin_and, bin_or, bin_xor, bin_andNot, bin_eql, bin_neq, bin_lss, bin_leq, bin_gtr, bin_geq, bin_shl, bin_shr, bin_bools, bin_strs, bin_ptrs, bin_slices, bin_aggs, ↓Option.bind_some, ↓Option.map_some, ↓cond_true, ↓cond_false, evC, evOp, XO.lit, setArgs, Tr.get_set, Option.bind_some, Option.map_some, cond_true, cond_false, maxI, maxFrom, minI, minFrom, aConv, aBinE, aEq, eqScal, aUn, evRes, fin, oneOf, if_true, if_false, callee, reduceCtorEq, Nat.reduceEqDiff, and_self, decide_true, decide_false, beq_true, beq_false, Bool.not_true, Bool.not_false, List.getElem?_cons_zero, List.getElem?_cons_succ, beq_self_eq_true, gt_iff_lt, ble_dec, beq_dec, List.head?_cons, AV.undef, eq_self, ne_eq, not_true_eq_false, not_false_eq_true, Int.reduceLT, Int.reduceLE, Int.reduceToNat, Int.reduceEq, Int.reduceNeg, Nat.reduceAdd, Nat.reduceLT, Nat.reduceLeDiff, Nat.reduceMul, Nat.reduceSub, ↓evDraw_nil, bir, putD, evDraw, trace, List.all_cons, List.all_nil, chk, stAt, again, sameV, sameL, sameA, AV.undef, Bool.and_self, Bool.and_true, decide_eq_true_eq, List.getElem?_nil, AV.cells, AV.tup, Bool.true_and, true_and, and_true, List.drop_nil, List.append_nil, rd_put, rd_alloc, rdO, St.get_put, St.get_alloc, St.next_put, St.next_alloc, St.wr, Bool.and_self, Bool.and_true, List.length_cons, List.length_nil, List.take_succ_cons, List.take_zero, List.drop_succ_cons, List.drop_zero, List.cons_append, List.nil_append, Nat.zero_add, Nat.add_zero, Nat.reduceMul, aFill, evParts, rep, List.replicate_succ, List.replicate_zero, List.flatten_cons, List.flatten_nil, List.append_nil, newSl, newVar, t3, t17, t18, t19, c1, hix, hz, hA, rA, rb, cell, h1, h2', h3, h4, wj]
    refine ⟨m - 1, ⟨?_, ?_, ?_, ?_, ex.trans eA, by omega, j + 1, ?_, by omega, by rw [htk]; exact g3A⟩, by show m - 1 < m; omega⟩ <;> simp only [Tr.get_set, Nat.reduceEqDiff, if_false, if_true, t0, t3, t17, t18]
  · have h2' := eq_true h2
    have h4' := eq_true h4
    have hlt : ltI leastI a b = true := slt.2 (by omega)
    rw [if_pos hlt] at htk
    simp -implicitDefEqProofs -dsimp (maxSteps := 10000000) only [af17_l1, ↓goes_loop, ↓goes_seq, ↓goes_reg, ↓goes_dreg, ↓goes_cond, ↓goes_block, ↓goes_skip, ↓goes_exit, ↓goes_ret, after_some, br_true, br_false, ↓then_normal, ↓then_exit, ↓then_ret, ↓blk_normal, ↓blk_exit, ↓blk_ret, ↓blk_other, ops_nil, ops_some, ops_none, oper_none, oper_some, gd_tt, gd_ff, gd_tf, gd_ft, gd_undef, ↓any_op, ↓any_call, ↓any_callV, ↓any_invoke, xo_t, xo_c, args_nil, args_cons, bin_add, bin_sub, bin_mul, bin_quo, bin_rem, bin_and, bin_or, bin_xor, bin_andNot, bin_eql, bin_neq, bin_lss, bin_leq, bin_gtr, bin_geq, bin_shl, bin_shr, bin_bools, bin_strs, bin_ptrs, bin_slices, bin_aggs, ↓Option.bind_some, ↓Option.map_some, ↓cond_true, ↓cond_false, evC, evOp, XO.lit, setArgs, Tr.get_set, Option.bind_some, Option.map_some, cond_true, cond_false, maxI, maxFrom, minI, minFrom, aConv, aBinE, aEq, eqScal, aUn, evRes, fin, oneOf, if_true, if_false, callee, reduceCtorEq, Nat.reduceEqDiff, and_self, decide_true, decide_false, beq_true, beq_false, Bool.not_true, Bool.not_false, List.getElem?_cons_zero, List.getElem?_cons_succ, beq_self_eq_true, gt_iff_lt, ble_dec, beq_dec, List.head?_cons, AV.undef, eq_self, ne_eq, not_true_eq_false, not_false_eq_true, Int.reduceLT, Int.reduceLE, Int.reduceToNat, Int.reduceEq, Int.reduceNeg, Nat.reduceAdd, Nat.reduceLT, Nat.reduceLeDiff, Nat.reduceMul, Nat.reduceSub, ↓evDraw_nil, bir, putD, evDraw, trace, List.all_cons, List.all_nil, chk, stAt, again, sameV, sameL, sameA, AV.undef, Bool.and_self, Bool.and_true, decide_eq_true_eq, List.getElem?_nil, AV.cells, AV.tup, Bool.true_and, true_and, and_true, List.drop_nil, List.append_nil, rd_put, rd_alloc, rdO, St.get_put, St.get_alloc, St.next_put, St.next_alloc, St.wr, Bool.and_self, Bool.and_true, List.length_cons, List.length_nil, List.take_succ_cons, List.take_zero, List.drop_succ_cons, List.drop_zero, List.cons_append, List.nil_append, Nat.zero_add, Nat.add_zero, Nat.reduceMul, aFill, evParts, rep, List.replicate_succ, List.replicate_zero, List.flatten_cons, List.flatten_nil, List.append_nil, newSl, newVar, t3, t17, t18, t19, c1, hix, hz, hA, rA, rb, cell, h1, h2', h3, h4', h5, g3A, wj]
    refine ⟨m - 1, ⟨?_, ?_, ?_, ?_, (ex.trans eA).then_put (Nat.le_refl _) _, by show Sb.next + 1 ≤ A.next; omega, j + 1, ?_, by omega, by rw [St.get_put, if_pos rfl, htk]; rfl⟩, by show m - 1 < m; omega⟩ <;> simp only [Tr.get_set, Nat.reduceEqDiff, if_false, if_true, t0, t3, t17, t18]
  · have h2' := eq_true h2
    have h4' := eq_true h4
    have hlt : ¬ ltI leastI a b = true := fun hh => by have := slt.1 hh; omega
    rw [if_neg hlt] at htk
    simp -implicitDefEqProofs -dsimp (maxSteps := 10000000) only [af17_l1, ↓goes_loop, ↓goes_seq, ↓goes_reg, ↓goes_dreg, ↓goes_cond, ↓goes_block, ↓goes_skip, ↓goes_exit, ↓goes_ret, after_some, br_true, br_false, ↓then_normal, ↓then_exit, ↓then_ret, ↓blk_normal, ↓blk_exit, ↓blk_ret, ↓blk_other, ops_nil, ops_some, ops_none, oper_none, oper_some, gd_tt, gd_ff, gd_tf, gd_ft, gd_undef, ↓any_op, ↓any_call, ↓any_callV, ↓any_invoke, xo_t, xo_c, args_nil, args_cons, bin_add, bin_sub, bin_mul, bin_quo, bin_rem, bin_and, bin_or, bin_xor, bin_andNot, bin_eql, bin_neq, bin_lss, bin_leq, bin_gtr, bin_geq, bin_shl, bin_shr, bin_bools, bin_strs, bin_ptrs, bin_slices, bin_aggs, ↓Option.bind_some, ↓Option.map_some, ↓cond_true, ↓cond_false, evC, evOp, XO.lit, setArgs, Tr.get_set, Option.bind_some, Option.map_some, cond_true, cond_false, maxI, maxFrom, minI, minFrom, aConv, aBinE, aEq, eqScal, aUn, evRes, fin, oneOf, if_true, if_false, callee, reduceCtorEq, Nat.reduceEqDiff, and_self, decide_true, decide_false, beq_true, beq_false, Bool.not_true, Bool.not_false, List.getElem?_cons_zero, List.getElem?_cons_succ, beq_self_eq_true, gt_iff_lt, ble_dec, beq_dec, List.head?_cons, AV.undef, eq_self, ne_eq, not_true_eq_false, not_false_eq_true, Int.reduceLT, Int.reduceLE, Int.reduceToNat, Int.reduceEq, Int.reduceNeg, Nat.reduceAdd, Nat.reduceLT, Nat.reduceLeDiff, Nat.reduceMul, Nat.reduceSub, ↓evDraw_nil, bir, putD, evDraw, trace, List.all_cons, List.all_nil, chk, stAt, again, sameV, sameL, sameA, AV.undef, Bool.and_self, Bool.and_true, decide_eq_true_eq, List.getElem?_nil, AV.cells, AV.tup, Bool.true_and, true_and, and_true, List.drop_nil, List.append_nil, rd_put, rd_alloc, rdO, St.get_put, St.get_alloc, St.next_put, St.next_alloc, St.wr, Bool.and_self, Bool.and_true, List.length_cons, List.length_nil, List.take_succ_cons, List.take_zero, List.drop_succ_cons, List.drop_zero, List.cons_append, List.nil_append, Nat.zero_add, Nat.add_zero, Nat.reduceMul, aFill, evParts, rep, List.replicate_succ, List.replicate_zero, List.flatten_cons, List.flatten_nil, List.append_nil, newSl, newVar, t3, t17, t18, t19, c1, hix, hz, hA, rA, rb, cell, h1, h2', h3, h4', h5, wj]
    refine ⟨m - 1, ⟨?_, ?_, ?_, ?_, ex.trans eA, by omega, j + 1, ?_, by omega, by rw [htk]; exact g3A⟩, by show m - 1 < m; omega⟩ <;> simp only [Tr.get_set, Nat.reduceEqDiff, if_false, if_true, t0, t3, t17, t18]
structure I17b (p : Option (Nat × Nat × Nat)) (e om : Nat) (l : List Tp) (s0 : Tp) (Sb : St) (m : Nat) (T : Tm) (S : St) : Prop where
  t0 : T.get 0 = some (.slice p l.length e none)
  t3 : T.get 3 = some (pt3 om)
  more : ∃ (n : Nat) (done : List Tp) (s : Tp) (po : Option (Nat × Nat × Nat)) (eo : Nat), T.get 6 = some (.slice po n eo none) ∧ n = done.length + 1 ∧ Go2 Sb S om s po eo (done ++ [s]) ∧ s ∈ l ∧ InvL l s ∧ (m : Int) = 512 - s.v ∧ done.length + m ≤ 512 ∧ ∀ c, Chain l s c → Chain l s0 (done ++ c)
set_option maxHeartbeats 4000000 in
theorem round17b (k : Nat) {p : Option (Nat × Nat × Nat)} {e om : Nat} {l : List Tp} {s0 : Tp} {Sb : St} (h : Ty Sb p e l) (hn : l.length ≤ 1000) (hl : ∀ t ∈ l, OkH t) (m : Nat) (T : Tm) (S : St) (hI : I17b p e om l s0 Sb m T S) :
    Goes (evF Y AP (k + 1101)) (k + 1101) af17_l0 T S (Then (fun T' S' => ∃ m', I17b p e om l s0 Sb m' T' S' ∧ id m' < id m) fun r T' S' => r = .ret ∧ ∃ n done po eo, T'.get 2 = some (.slice po n eo none) ∧ n = done.length ∧ Gt Sb S' po eo done ∧ Chain l s0 done ∧ done.length ≤ 512) := by
  obtain ⟨t0, t3, n, done, s, po, eo, t6, hnn, G, h1, h2, h3, h4, h5⟩ := hI
  have ks := hl s h1
  have := ks.v1
  have rs : ∀ v i m, S.rd om v i m = rdO (cell s) v i m := rd_of G.gm
  have om1 := G.om1
  obtain ⟨S1, h32, x1⟩ := T32 k (c := none) (h.ext G.ext) hn hl ks h2
  have h32 : evF Y AP (k + 1101) 32 [.slice p l.length e none, .agg [.int .u32 s.o, .int .u64 s.r, .int .i64 s.v]] S = _ := h32
  have hlen : (done ++ [s]).length = done.length + 1 := by rw [List.length_append]; rfl
  cases hB : nextB l s with
  | false =>
    have hT : meetT l s = ⟨0, 0, 0⟩ := by unfold meetT; rw [hB]; rfl
    rw [hB, hT] at h32
    simp -implicitDefEqProofs -dsimp (maxSteps := 10000000) only [af17_l0, ↓goes_loop, ↓goes_seq, ↓goes_reg, ↓goes_dreg, ↓goes_cond, ↓goes_block, ↓goes_skip, ↓goes_exit, ↓goes_ret, after_some, br_true, br_false, ↓then_normal, ↓then_exit, ↓then_ret, ↓blk_normal, ↓blk_exit, ↓blk_ret, ↓blk_other, ops_nil, ops_some, ops_none, oper_none, oper_some, gd_tt, gd_ff, gd_tf, gd_ft, gd_undef, ↓any_op, ↓any_call, ↓any_callV, ↓any_invoke, xo_t, xo_c, args_nil, args_cons, bin_add, bin_sub, bin_mul, bin_quo, bin_rem, bin_and, bin_or, bin_xor, bin_andNot, bin_eql, bin_neq, bin_lss, bin_leq, bin_gtr, bin_geq, bin_shl, bin_shr, bin_bools, bin_strs, bin_ptrs, bin_slices, bin_aggs, ↓Option.bind_some, ↓Option.map_some, ↓cond_true, ↓cond_false, evC, evOp, XO.lit, setArgs, Tr.get_set, Option.bind_some, Option.map_some, cond_true, cond_false, maxI, maxFrom, minI, minFrom, aConv, aBinE, aEq, eqScal, aUn, evRes, fin, oneOf, if_true, if_false, callee, reduceCtorEq, Nat.reduceEqDiff, and_self, decide_true, decide_false, beq_true, beq_false, Bool.not_true, Bool.not_false, List.getElem?_cons_zero, List.getElem?_cons_succ, beq_self_eq_true, gt_iff_lt, ble_dec, beq_dec, List.head?_cons, AV.undef, eq_self, ne_eq, not_true_eq_false, not_false_eq_true, Int.reduceLT, Int.reduceLE, Int.reduceToNat, Int.reduceEq, Int.reduceNeg, Nat.reduceAdd, Nat.reduceLT, Nat.reduceLeDiff, Nat.reduceMul, Nat.reduceSub, AV.cells, AV.tup, Bool.true_and, true_and, and_true, List.drop_nil, List.append_nil, rd_put, rd_alloc, rdO, St.get_put, St.get_alloc, St.next_put, St.next_alloc, St.wr, Bool.and_self, Bool.and_true, List.length_cons, List.length_nil, List.take_succ_cons, List.take_zero, List.drop_succ_cons, List.drop_zero, List.cons_append, List.nil_append, Nat.zero_add, Nat.add_zero, Nat.reduceMul, aFill, evParts, rep, List.replicate_succ, List.replicate_zero, List.flatten_cons, List.flatten_nil, List.append_nil, newSl, newVar, t0, t3, t6, rs, cell, h32, Bool.not_false]
    refine ⟨n, done ++ [s], po, eo, ?_, by omega, (G.more ((x1.then_alloc _).then_put x1.next _)).gt, h5 _ (.stop s ?_), by omega⟩
    · simp only [Tr.get_set, Nat.reduceEqDiff, if_false, if_true]
    · rw [← Bool.not_eq_true, nextB_iff] at hB
      by_cases h0 : restP l s = []
      · exact .inl h0
      · exact .inr fun hm => hB ⟨h0, hm⟩
  | true =>
    obtain ⟨h0, hm⟩ := nextB_iff.1 hB
    obtain ⟨hb1, hb2⟩ := best_mem h0
    have hb3 := (hl _ hb1).v1
    have hinv := best_inv h0 h2
    have hT : meetT l s = bestP l s := by unfold meetT; rw [hB]; rfl
    rw [hB, hT] at h32
    have h6 : ∀ c, Chain l (bestP l s) c → Chain l s0 ((done ++ [s]) ++ c) := fun c hc => by
      have := h5 (s :: c) (.step s c h0 hm hc)
      rw [List.append_assoc]; exact this
    obtain ⟨b, hb⟩ : ∃ b, bestP l s = b := ⟨_, rfl⟩
    rw [hb] at h32 hb1 hb2 hb3 hinv h6
    obtain ⟨A, hA⟩ : ∃ A, (S1.alloc (.cells [.int .u32 0, .int .u64 0, .int .i64 0] 0 0 true)).put S1.next (.cells [.int .u32 b.o, .int .u64 b.r, .int .i64 b.v] 0 0 true) = A := ⟨_, rfl⟩
    have eA : Ext S1 A := by rw [← hA]; exact (Ext.alloc S1 _).then_put (Nat.le_refl _) _
    have nA : A.next = S1.next + 1 := by rw [← hA]; rfl
    have gA : A.get S1.next = some (cell b) := by rw [← hA, St.get_put, if_pos rfl]; rfl
    have rA : ∀ v i m, A.rd S1.next v i m = rdO (cell b) v i m := rd_of gA
    obtain ⟨B, hB2⟩ : ∃ B, A.alloc (.cells [.int .u32 b.o, .int .u64 b.r, .int .i64 b.v] 0 0 true) = B := ⟨_, rfl⟩
    have eB : Ext A B := by rw [← hB2]; exact .alloc _ _
    have rB : B.rd A.next 0 0 3 = some [.int .u32 b.o, .int .u64 b.r, .int .i64 b.v] := by rw [← hB2, rd_alloc, if_pos rfl]; rfl
    have G1 := G.more (x1.trans (eA.trans eB))
    have hnew : ∀ v i, po ≠ some (S1.next, v, i) := fun v i hp => by
      rcases G.vec.at_ with ⟨hz, _⟩ | ⟨o, ver, minv, hz, ho, _⟩
      · rw [hp] at hz; cases hz
      · rw [hp] at hz; cases hz; have := x1.next; omega
    obtain ⟨p', S2, h1', h2', h3', h4'⟩ := G1.vec.append (bytes := 24) (xs := tcs [b]) (n := 1) (tcs_len [b]) (by decide) (by omega)
    have g2 : S2.get S1.next = some (cell b) := by rw [h3'.old _ (by have := eB.next; omega) hnew]; exact eB.get (by omega) gA
    have r2 : ∀ v i m, S2.rd S1.next v i m = rdO (cell b) v i m := rd_of g2
    have nb : Sb.next ≤ S1.next := Nat.le_trans G.ext.next x1.next
    have neb := eB.next
    have nom : ∀ v i, po ≠ some (om, v, i) := fun v i hp => (G.new _ _ _ hp).2 rfl
    have gm2 : S2.get om = some (cell s) := by rw [h3'.old _ G1.om1 nom]; exact G1.gm
    have G2 : Go2 Sb S2 om s p' 3 (done ++ [s] ++ [b]) := by
      refine ⟨by rw [List.length_append (bs := [b]), tcs_app]; exact h2', ⟨Nat.le_trans G1.ext.next h3'.next, fun o ho => ?_⟩, fun o v i hp => ?_, gm2, G.om0, Nat.lt_of_lt_of_le G1.om1 h3'.next⟩
      · rw [h3'.old o (Nat.lt_of_lt_of_le ho G1.ext.next) (fun v i hp => by have := (G.new o v i hp).1; omega)]
        exact G1.ext.old o ho
      · rcases h4' o v i hp with h5 | ⟨v', i', h5⟩
        · have := G1.om1; have := G1.ext.next; exact ⟨by omega, by omega⟩
        · exact G.new _ _ _ h5
    have h1'' : aAppend 3 24 B (.slice po n eo none) 1 [.int .u32 b.o, .int .u64 b.r, .int .i64 b.v] = some (.slice p' (n + 1) 3 none, S2) := by rw [hlen] at h1'; rw [hnn]; exact h1'
    simp -implicitDefEqProofs -dsimp (maxSteps := 10000000) only [af17_l0, ↓goes_loop, ↓goes_seq, ↓goes_reg, ↓goes_dreg, ↓goes_cond, ↓goes_block, ↓goes_skip, ↓goes_exit, ↓goes_ret, after_some, br_true, br_false, ↓then_normal, ↓then_exit, ↓then_ret, ↓blk_normal, ↓blk_exit, ↓blk_ret, ↓blk_other, ops_nil, ops_some, ops_none, oper_none, oper_some, gd_tt, gd_ff, gd_tf, gd_ft, gd_undef, ↓any_op, ↓any_call, ↓any_callV, ↓any_invoke, xo_t, xo_c, args_nil, args_cons, bin_add, bin_sub, bin_mul, bin_quo, bin_rem, bin_and, bin_or, bin_xor, bin_andNot, bin_eql, bin_neq, bin_lss, bin_leq, bin_gtr, bin_geq, bin_shl, bin_shr, bin_bools, bin_strs, bin_ptrs, bin_slices, bin_aggs, ↓Option.bind_some, ↓Option.map_some, ↓cond_true, ↓cond_false, evC, evOp, XO.lit, setArgs, Tr.get_set, Option.bind_some, Option.map_some, cond_true, cond_false, maxI, maxFrom, minI, minFrom, aConv, aBinE, aEq, eqScal, aUn, evRes, fin, oneOf, if_true, if_false, callee, reduceCtorEq, Nat.reduceEqDiff, and_self, decide_true, decide_false, beq_true, beq_false, Bool.not_true, Bool.not_false, List.getElem?_cons_zero, List.getElem?_cons_succ, beq_self_eq_true, gt_iff_lt, ble_dec, beq_dec, List.head?_cons, AV.undef, eq_self, ne_eq, not_true_eq_false, not_false_eq_true, Int.reduceLT, Int.reduceLE, Int.reduceToNat, Int.reduceEq, Int.reduceNeg, Nat.reduceAdd, Nat.reduceLT, Nat.reduceLeDiff, Nat.reduceMul, Nat.reduceSub, AV.cells, AV.tup, Bool.true_and, true_and, and_true, List.drop_nil, List.append_nil, rd_put, rd_alloc, rdO, St.get_put, St.get_alloc, St.next_put, St.next_alloc, St.wr, Bool.and_self, Bool.and_true, List.length_cons, List.length_nil, List.take_succ_cons, List.take_zero, List.drop_succ_cons, List.drop_zero, List.cons_append, List.nil_append, Nat.zero_add, Nat.add_zero, Nat.reduceMul, aFill, evParts, rep, List.replicate_succ, List.replicate_zero, List.flatten_cons, List.flatten_nil, List.append_nil, newSl, newVar, t0, t3, t6, rs, cell, h32, Bool.not_true, hA, rA, hB2, Nat.one_mul, rB, h1'', r2, gm2]
    refine ⟨(512 - b.v).toNat, ⟨?_, ?_, n + 1, done ++ [s], b, p', 3, ?_, by omega, G2.put b, hb1, hinv, by omega, by omega, h6⟩, by show (512 - b.v).toNat < m; omega⟩ <;> simp only [Tr.get_set, Nat.reduceEqDiff, if_false, if_true, t0, t3]
set_option maxHeartbeats 4000000 in
theorem T17 (k : Nat) {S : St} {p : Option (Nat × Nat × Nat)} {c : Option Nat} {e : Nat} {l : List Tp} (h : Ty S p e l) (hn : l.length ≤ 1000) (hl : ∀ t ∈ l, OkT t) :
    ∃ p' e' c' S' r, evF Y AP (k + 1102) 17 [.slice p l.length e c] S = some (.slice p' r.length e' c', S') ∧ Ty S' p' e' r ∧ Ext S S' ∧ SetP l r ∧ r.length ≤ 512 := by
  have hmx := h.mx
  suffices hh : ∃ v' S', evF Y AP (k + 1102) 17 [.slice p l.length e c] S = some (v', S') ∧ ∃ p' e' c' r, v' = .slice p' r.length e' c' ∧ Ty S' p' e' r ∧ Ext S S' ∧ SetP l r ∧ r.length ≤ 512 by
    obtain ⟨v', S', h1, p', e', c', r, rfl, h2⟩ := hh; exact ⟨p', e', c', S', r, h1, h2⟩
  obtain ⟨p1, e1, S1, h31, G1⟩ := T31 (k + 1) (c := c) h hn
  have h31 : evF Y AP (k + 1101) 31 [.slice p l.length e c] S = _ := h31
  have hlen : (l.map heldT).length = l.length := List.length_map _
  have ty := G1.ty (by omega)
  have hl' : ∀ t ∈ l.map heldT, OkH t := fun t ht => by
    obtain ⟨a, ha, rfl⟩ := List.mem_map.1 ht
    exact (hl a ha).held
  refine evF_goes (af := af17) (k := k + 1101) rfl rfl rfl ?_
  by_cases c1 : l = []
  · subst c1
    rw [List.length_nil] at h31
    simp -implicitDefEqProofs -dsimp (maxSteps := 10000000) only [af17, ↓goes_loop, ↓goes_seq, ↓goes_reg, ↓goes_dreg, ↓goes_cond, ↓goes_block, ↓goes_skip, ↓goes_exit, ↓goes_ret, after_some, br_true, br_false, ↓then_normal, ↓then_exit, ↓then_ret, ↓blk_normal, ↓blk_exit, ↓blk_ret, ↓blk_other, ops_nil, ops_some, ops_none, oper_none, oper_some, gd_tt, gd_ff, gd_tf, gd_ft, gd_undef, ↓any_op, ↓any_call, ↓any_callV, ↓any_invoke, xo_t, xo_c, args_nil, args_cons, bin_add, bin_sub, bin_mul, bin_quo, bin_rem, bin_and, bin_or, bin_xor, bin_andNot, bin_eql, bin_neq, bin_lss, bin_leq, bin_gtr, bin_geq, bin_shl, bin_shr, bin_bools, bin_strs, bin_ptrs, bin_slices, bin_aggs, ↓Option.bind_some, ↓Option.map_some, ↓cond_true, ↓cond_false, evC, evOp, XO.lit, setArgs, Tr.tabG, Tr.tabS, Tr.tabL, Tr.get_lf, Option.bind_some, Option.map_some, cond_true, cond_false, maxI, maxFrom, minI, minFrom, aConv, aBinE, aEq, eqScal, aUn, evRes, fin, oneOf, if_true, if_false, callee, reduceCtorEq, Nat.reduceEqDiff, and_self, decide_true, decide_false, beq_true, beq_false, Bool.not_true, Bool.not_false, List.getElem?_cons_zero, List.getElem?_cons_succ, beq_self_eq_true, gt_iff_lt, ble_dec, beq_dec, List.head?_cons, AV.undef, eq_self, ne_eq, not_true_eq_false, not_false_eq_true, Int.reduceLT, Int.reduceLE, Int.reduceToNat, Int.reduceEq, Int.reduceNeg, Nat.reduceAdd, Nat.reduceLT, Nat.reduceLeDiff, Nat.reduceMul, Nat.reduceSub, AV.cells, AV.tup, Bool.true_and, true_and, and_true, List.drop_nil, List.append_nil, rd_put, rd_alloc, rdO, St.get_put, St.get_alloc, St.next_put, St.next_alloc, St.wr, Bool.and_self, Bool.and_true, List.length_cons, List.length_nil, List.take_succ_cons, List.take_zero, List.drop_succ_cons, List.drop_zero, List.cons_append, List.nil_append, Nat.zero_add, Nat.add_zero, Nat.reduceMul, h31, Int.natCast_zero]
    exact ⟨_, _, rfl, none, 0, none, [], rfl, .zero _ _, G1.ext, .inl ⟨rfl, rfl⟩, Nat.zero_le _⟩
  · have h0 : 0 < l.length := List.length_pos_iff.2 c1
    have hz : ¬ (l.length : Int) = 0 := by omega
    have hne : l.map heldT ≠ [] := fun e => by have := congrArg List.length e; rw [hlen, List.length_nil] at this; omega
    have hmem := minL_mem (ltI leastI) hne
    have hinv := least_inv (l := l.map heldT)
    obtain ⟨L, hL⟩ : ∃ L, l.map heldT = L := ⟨_, rfl⟩
    rw [hL] at hmem hinv hl' hlen ty
    have hL0 : 0 < L.length := by omega
    obtain ⟨o, v, i, rfl, rfl, ho⟩ := ty.some_ (by omega)
    have hix : ixOf (.int .i64 0) l.length = some 0 := by rw [ix_ok (by omega) (by omega)]; rfl
    have hz0 : S1.rd o v (i + 0 * 3) 3 = some [.int .u32 L[0].o, .int .u64 L[0].r, .int .i64 L[0].v] := ty.get hL0
    rw [Nat.zero_mul, Nat.add_zero] at hz0
    obtain ⟨A, hA⟩ : ∃ A, (S1.alloc (.cells [.int .u32 0, .int .u64 0, .int .i64 0] 0 0 true)).put S1.next (.cells [.int .u32 L[0].o, .int .u64 L[0].r, .int .i64 L[0].v] 0 0 true) = A := ⟨_, rfl⟩
    have eA : Ext S1 A := by rw [← hA]; exact (Ext.alloc S1 _).then_put (Nat.le_refl _) _
    have nA : A.next = S1.next + 1 := by rw [← hA]; rfl
    have gA : A.get S1.next = some (cell (minL (ltI leastI) (L.take (max 0 1)))) := by
      rw [← hA, St.get_put, if_pos rfl]
      cases L with
      | nil => exact absurd hL0 (Nat.lt_irrefl _)
      | cons x y => rfl
    simp -implicitDefEqProofs -dsimp (maxSteps := 10000000) only [af17, ↓goes_loop, ↓goes_seq, ↓goes_reg, ↓goes_dreg, ↓goes_cond, ↓goes_block, ↓goes_skip, ↓goes_exit, ↓goes_ret, after_some, br_true, br_false, ↓then_normal, ↓then_exit, ↓then_ret, ↓blk_normal, ↓blk_exit, ↓blk_ret, ↓blk_other, ops_nil, ops_some, ops_none, oper_none, oper_some, gd_tt, gd_ff, gd_tf, gd_ft, gd_undef, ↓any_op, ↓any_call, ↓any_callV, ↓any_invoke, xo_t, xo_c, args_nil, args_cons, bin_add, bin_sub, bin_mul, bin_quo, bin_rem, bin_and, bin_or, bin_xor, bin_andNot, bin_eql, bin_neq, bin_lss, bin_leq, bin_gtr, bin_geq, bin_shl, bin_shr, bin_bools, bin_strs, bin_ptrs, bin_slices, bin_aggs, ↓Option.bind_some, ↓Option.map_some, ↓cond_true, ↓cond_false, evC, evOp, XO.lit, setArgs, Tr.tabG, Tr.tabS, Tr.tabL, Tr.get_lf, Option.bind_some, Option.map_some, cond_true, cond_false, maxI, maxFrom, minI, minFrom, aConv, aBinE, aEq, eqScal, aUn, evRes, fin, oneOf, if_true, if_false, callee, reduceCtorEq, Nat.reduceEqDiff, and_self, decide_true, decide_false, beq_true, beq_false, Bool.not_true, Bool.not_false, List.getElem?_cons_zero, List.getElem?_cons_succ, beq_self_eq_true, gt_iff_lt, ble_dec, beq_dec, List.head?_cons, AV.undef, eq_self, ne_eq, not_true_eq_false, not_false_eq_true, Int.reduceLT, Int.reduceLE, Int.reduceToNat, Int.reduceEq, Int.reduceNeg, Nat.reduceAdd, Nat.reduceLT, Nat.reduceLeDiff, Nat.reduceMul, Nat.reduceSub, AV.cells, AV.tup, Bool.true_and, true_and, and_true, List.drop_nil, List.append_nil, rd_put, rd_alloc, rdO, St.get_put, St.get_alloc, St.next_put, St.next_alloc, St.wr, Bool.and_self, Bool.and_true, List.length_cons, List.length_nil, List.take_succ_cons, List.take_zero, List.drop_succ_cons, List.drop_zero, List.cons_append, List.nil_append, Nat.zero_add, Nat.add_zero, Nat.reduceMul, aFill, evParts, rep, List.replicate_succ, List.replicate_zero, List.flatten_cons, List.flatten_nil, List.append_nil, newSl, newVar, h31, hmx, hz, hix, Nat.zero_mul, Nat.add_zero, hz0, hA]
    refine .while (I17a (some (o, v, i)) 3 L S1) id L.length ⟨by rw [hlen]; rfl, rfl, by rw [hlen]; rfl, by rw [hlen]; rfl, eA, by omega, 0, rfl, by omega, gA⟩ (by show L.length < k + 1101; omega) fun m2 T2 S3 h2 => (round17a k ty hL0 m2 T2 S3 h2).mono ?_
    intro r T' S' hq
    cases r with
    | normal => exact hq
    | ret => exact absurd hq.1 (by simp)
    | exit i =>
      obtain ⟨hi2, t0, t3, t17, t18, ex, nx, j, t19, hm, g3⟩ := hq
      cases hi2
      obtain rfl : j = L.length := by omega
      rw [show max L.length 1 = L.length by omega, List.take_length] at g3
      obtain ⟨s, hs⟩ : ∃ s, minL (ltI leastI) L = s := ⟨_, rfl⟩
      rw [hs] at hmem hinv g3
      have ks := hl' s hmem
      have := ks.v0; have := ks.v1
      have rs : ∀ v i m, S'.rd S1.next v i m = rdO (cell s) v i m := rd_of g3
      obtain ⟨B, hB⟩ : ∃ B, S'.alloc (.cells [.int .u32 s.o, .int .u64 s.r, .int .i64 s.v] 0 0 true) = B := ⟨_, rfl⟩
      have eB : Ext S' B := by rw [← hB]; exact .alloc _ _
      have nB : B.next = S'.next + 1 := by rw [← hB]; rfl
      have gB : B.get S'.next = some (.cells [.int .u32 s.o, .int .u64 s.r, .int .i64 s.v] 0 0 true) := by rw [← hB, St.get_alloc, if_pos rfl]
      simp -implicitDefEqProofs -dsimp (maxSteps := 10000000) only [↓goes_loop, ↓goes_seq, ↓goes_reg, ↓goes_dreg, ↓goes_cond, ↓goes_block, ↓goes_skip, ↓goes_exit, ↓goes_ret, after_some, br_true, br_false, ↓then_normal, ↓then_exit, ↓then_ret, ↓blk_normal, ↓blk_exit, ↓blk_ret, ↓blk_other, ops_nil, ops_some, ops_none, oper_none, oper_some, gd_tt, gd_ff, gd_tf, gd_ft, gd_undef, ↓any_op, ↓any_call, ↓any_callV, ↓any_invoke, xo_t, xo_c, args_nil, args_cons, bin_add, bin_sub, bin_mul, bin_quo, bin_rem, bin_and, bin_or, bin_xor, bin_andNot, bin_eql, bin_neq, bin_lss, bin_leq, bin_gtr, bin_geq, bin_shl, bin_shr, bin_bools, bin_strs, bin_ptrs, bin_slices, bin_aggs, ↓Option.bind_some, ↓Option.map_some, ↓cond_true, ↓cond_false, evC, evOp, XO.lit, setArgs, Tr.get_set, Option.bind_some, Option.map_some, cond_true, cond_false, maxI, maxFrom, minI, minFrom, aConv, aBinE, aEq, eqScal, aUn, evRes, fin, oneOf, if_true, if_false, callee, reduceCtorEq, Nat.reduceEqDiff, and_self, decide_true, decide_false, beq_true, beq_false, Bool.not_true, Bool.not_false, List.getElem?_cons_zero, List.getElem?_cons_succ, beq_self_eq_true, gt_iff_lt, ble_dec, beq_dec, List.head?_cons, AV.undef, eq_self, ne_eq, not_true_eq_false, not_false_eq_true, Int.reduceLT, Int.reduceLE, Int.reduceToNat, Int.reduceEq, Int.reduceNeg, Nat.reduceAdd, Nat.reduceLT, Nat.reduceLeDiff, Nat.reduceMul, Nat.reduceSub, AV.cells, AV.tup, Bool.true_and, true_and, and_true, List.drop_nil, List.append_nil, rd_put, rd_alloc, rdO, St.get_put, St.get_alloc, St.next_put, St.next_alloc, St.wr, Bool.and_self, Bool.and_true, List.length_cons, List.length_nil, List.take_succ_cons, List.take_zero, List.drop_succ_cons, List.drop_zero, List.cons_append, List.nil_append, Nat.zero_add, Nat.add_zero, Nat.reduceMul, aFill, evParts, rep, List.replicate_succ, List.replicate_zero, List.flatten_cons, List.flatten_nil, List.append_nil, newSl, newVar, t3, rs, cell, hB]
      refine .while (I17b (some (o, v, i)) 3 S1.next L s S1) id (512 - s.v).toNat ⟨?_, ?_, 1, [], s, some (S'.next, 0, 0), 1 * 3, ?_, rfl, ⟨⟨.inr rfl, rfl, .inr ⟨S'.next, 0, 0, rfl, by omega, gB, Nat.le_refl _⟩⟩, ex.trans eB, fun o v i hp => by cases hp; omega, eB.get (by omega) g3, Nat.le_refl _, by omega⟩, hmem, hinv, by omega, by simp only [List.length_nil]; omega, fun c hc => hc⟩ (by show (512 - s.v).toNat < k + 1101; omega) fun m2 T2 S3 h2 => (round17b k ty (by omega) hl' m2 T2 S3 h2).mono ?_
      iterate 3 (first | focus (simp only [Tr.get_set, Nat.reduceEqDiff, if_false, if_true, t0, t3]; done) | skip)
      intro r T' S' hq
      cases r with
      | normal => exact hq
      | exit i => exact absurd hq.1 (by simp)
      | ret =>
        obtain ⟨_, n, done, po, eo, t2, hnn, G, hc, hd⟩ := hq
        simp -implicitDefEqProofs -dsimp (maxSteps := 10000000) only [↓goes_loop, ↓goes_seq, ↓goes_reg, ↓goes_dreg, ↓goes_cond, ↓goes_block, ↓goes_skip, ↓goes_exit, ↓goes_ret, after_some, br_true, br_false, ↓then_normal, ↓then_exit, ↓then_ret, ↓blk_normal, ↓blk_exit, ↓blk_ret, ↓blk_other, ops_nil, ops_some, ops_none, oper_none, oper_some, gd_tt, gd_ff, gd_tf, gd_ft, gd_undef, ↓any_op, ↓any_call, ↓any_callV, ↓any_invoke, xo_t, xo_c, args_nil, args_cons, bin_add, bin_sub, bin_mul, bin_quo, bin_rem, bin_and, bin_or, bin_xor, bin_andNot, bin_eql, bin_neq, bin_lss, bin_leq, bin_gtr, bin_geq, bin_shl, bin_shr, bin_bools, bin_strs, bin_ptrs, bin_slices, bin_aggs, ↓Option.bind_some, ↓Option.map_some, ↓cond_true, ↓cond_false, evC, evOp, XO.lit, setArgs, Tr.get_set, Option.bind_some, Option.map_some, cond_true, cond_false, maxI, maxFrom, minI, minFrom, aConv, aBinE, aEq, eqScal, aUn, evRes, fin, oneOf, if_true, if_false, callee, reduceCtorEq, Nat.reduceEqDiff, and_self, decide_true, decide_false, beq_true, beq_false, Bool.not_true, Bool.not_false, List.getElem?_cons_zero, List.getElem?_cons_succ, beq_self_eq_true, gt_iff_lt, ble_dec, beq_dec, List.head?_cons, AV.undef, eq_self, ne_eq, not_true_eq_false, not_false_eq_true, Int.reduceLT, Int.reduceLE, Int.reduceToNat, Int.reduceEq, Int.reduceNeg, Nat.reduceAdd, Nat.reduceLT, Nat.reduceLeDiff, Nat.reduceMul, Nat.reduceSub, AV.cells, AV.tup, Bool.true_and, true_and, and_true, List.drop_nil, List.append_nil, rd_put, rd_alloc, rdO, St.get_put, St.get_alloc, St.next_put, St.next_alloc, St.wr, Bool.and_self, Bool.and_true, List.length_cons, List.length_nil, List.take_succ_cons, List.take_zero, List.drop_succ_cons, List.drop_zero, List.cons_append, List.nil_append, Nat.zero_add, Nat.add_zero, Nat.reduceMul, t2]
        refine ⟨_, _, rfl, po, eo, none, done, by rw [hnn], G.ty (by omega), G1.ext.trans G.ext, .inr ⟨c1, ?_⟩, hd⟩
        rw [hL, hs]; exact hc
end Go.Proofs.YtkbooepiomobdaaA
