/- Chapter 13: tuples as they may be; the next line. -/
import Derived.Test.YtkbooepiomobdaaBdC
set_option linter.unusedVariables false
set_option linter.unusedSimpArgs false
set_option maxRecDepth 10000
namespace Go.Proofs.YtkbooepiomobdaaA
open Go.RowKit
attribute [local congr] bind_congr1 map_congr1 cond_congr1 withX_congr after_congr br_congr gd_congr

theorem map_take_succ {l : List Tp} {j : Nat} (hj : j < l.length) (f : Tp → Tp) : (l.take (j + 1)).map f = (l.take j).map f ++ [f l[j]] := by
  rw [List.take_succ_eq_append_getElem hj, List.map_append]; rfl
/-- All tuples as they may be. -/
structure I21 (p : Option (Nat × Nat × Nat)) (c : Option Nat) (e : Nat) (l : List Tp) (Sb : St) (m : Nat) (T : Tm) (S : St) : Prop where
  t6 : T.get 6 = some (.slice p l.length e c)
  t7 : T.get 7 = some (.int .i64 l.length)
  more : ∃ (j : Nat) (po : Option (Nat × Nat × Nat)) (eo : Nat), T.get 8 = some (.int .i64 j) ∧ j + m = l.length ∧ T.get 3 = some (.slice po j eo none) ∧ Gt Sb S po eo ((l.take j).map heldT)
set_option maxHeartbeats 4000000 in
theorem round21 (k : Nat) {p : Option (Nat × Nat × Nat)} {c : Option Nat} {e : Nat} {l : List Tp} {Sb : St} (h : Ty Sb p e l) (hn : l.length ≤ 1000) (m : Nat) (T : Tm) (S : St) (hI : I21 p c e l Sb m T S) :
    Goes (evF Y AP (k + 1099)) (k + 1099) af21_l0 T S (Then (fun T' S' => ∃ m', I21 p c e l Sb m' T' S' ∧ id m' < id m) fun r T' S' => r = .exit 0 ∧ I21 p c e l Sb 0 T' S') := by
  obtain ⟨t6, t7, j, po, eo, t8, hm, t3, G⟩ := hI
  by_cases c1 : (j : Int) < (l.length : Int)
  rotate_left
  · simp -implicitDefEqProofs -dsimp (maxSteps := 10000000) only [af21_l0, ↓goes_loop, ↓goes_seq, ↓goes_reg, ↓goes_dreg, ↓goes_cond, ↓goes_block, ↓goes_skip, ↓goes_exit, ↓goes_ret, after_some, br_true, br_false, ↓then_normal, ↓then_exit, ↓then_ret, ↓blk_normal, ↓blk_exit, ↓blk_ret, ↓blk_other, ops_nil, ops_some, ops_none, oper_none, oper_some, gd_tt, gd_ff, gd_tf, gd_ft, gd_undef, ↓any_op, ↓any_call, ↓any_callV, ↓any_invoke, xo_t, xo_c, args_nil, args_cons, bin_add, bin_sub, bin_mul, bin_quo, bin_rem, bin_and, bin_or, bin_xor, bin_andNot, bin_eql, bin_neq, bin_lss, bin_leq, bin_gtr, bin_geq, bin_shl, bin_shr, bin_bools, bin_strs, bin_ptrs, bin_slices, bin_aggs, ↓Option.bind_some, ↓Option.map_some, ↓cond_true, ↓cond_false, evC, evOp, XO.lit, setArgs, Tr.get_set, Option.bind_some, Option.map_some, cond_true, cond_false, maxI, maxFrom, minI, minFrom, aConv, aBinE, aEq, eqScal, aUn, evRes, fin, oneOf, if_true, if_false, callee, reduceCtorEq, Nat.reduceEqDiff, and_self, decide_true, decide_false, beq_true, beq_false, Bool.not_true, Bool.not_false, List.getElem?_cons_zero, List.getElem?_cons_succ, beq_self_eq_true, gt_iff_lt, ble_dec, beq_dec, List.head?_cons, AV.undef, eq_self, ne_eq, not_true_eq_false, not_false_eq_true, Int.reduceLT, Int.reduceLE, Int.reduceToNat, Int.reduceEq, Int.reduceNeg, Nat.reduceAdd, Nat.reduceLT, Nat.reduceLeDiff, Nat.reduceMul, Nat.reduceSub, AV.cells, AV.tup, Bool.true_and, true_and, and_true, List.drop_nil, List.append_nil, rd_put, rd_alloc, rdO, St.get_put, St.get_alloc, St.next_put, St.next_alloc, St.wr, Bool.and_self, Bool.and_true, List.length_cons, List.length_nil, List.take_succ_cons, List.take_zero, List.drop_succ_cons, List.drop_zero, List.cons_append, List.nil_append, Nat.zero_add, Nat.add_zero, Nat.reduceMul, t7, t8, c1]
    refine ⟨?_, ?_, j, po, eo, ?_, by omega, ?_, G⟩ <;> simp only [Tr.get_set, Nat.reduceEqDiff, if_false, if_true, t3, t6, t7, t8]
  have hj : j < l.length := by omega
  obtain ⟨o, v, i, rfl, rfl, ho⟩ := h.some_ (by omega)
  have hix : ixOf (.int .i64 (j : Int)) l.length = some j := by rw [ix_ok (by omega) c1]; rfl
  have wj : IntKind.i64.wrap ((j : Int) + 1) = ((j + 1 : Nat) : Int) := w64_id (by omega) (by omega)
  have htk := map_take_succ hj heldT
  have hz : S.rd o v (i + j * 3) 3 = some [.int .u32 l[j].o, .int .u64 l[j].r, .int .i64 l[j].v] := by rw [G.ext.rd ho]; exact h.get hj
  obtain ⟨a, ha⟩ : ∃ a, l[j] = a := ⟨_, rfl⟩
  rw [ha] at hz htk
  obtain ⟨A, hA⟩ : ∃ A, (S.alloc (.cells [.int .u32 0, .int .u64 0, .int .i64 0] 0 0 true)).put S.next (.cells [.int .u32 a.o, .int .u64 a.r, .int .i64 a.v] 0 0 true) = A := ⟨_, rfl⟩
  have eA : Ext S A := by rw [← hA]; exact (Ext.alloc S _).then_put (Nat.le_refl _) _
  have nA : A.next = S.next + 1 := by rw [← hA]; rfl
  have rA : ∀ v i m, A.rd S.next v i m = rdO (.cells [.int .u32 a.o, .int .u64 a.r, .int .i64 a.v] 0 0 true) v i m := rd_of (by rw [← hA, St.get_put, if_pos rfl])
  have h35 : evF Y AP (k + 1099) 35 [.agg [.int .u32 a.o, .int .u64 a.r, .int .i64 a.v]] A = some (tpv (heldT a), A) := y35 (k + 1098) A a
  obtain ⟨b, hb⟩ : ∃ b, heldT a = b := ⟨_, rfl⟩
  rw [hb] at h35 htk
  obtain ⟨B, hB⟩ : ∃ B, A.alloc (.cells [.int .u32 b.o, .int .u64 b.r, .int .i64 b.v] 0 0 true) = B := ⟨_, rfl⟩
  have eB : Ext A B := by rw [← hB]; exact .alloc _ _
  have rB : B.rd A.next 0 0 3 = some [.int .u32 b.o, .int .u64 b.r, .int .i64 b.v] := by rw [← hB, rd_alloc, if_pos rfl]; rfl
  have hl : ((l.take j).map heldT).length = j := by rw [List.length_map, List.length_take]; omega
  obtain ⟨p', S', hap, G', _⟩ := (G.more (eA.trans eB)).app1 b (by omega)
  rw [hl] at hap
  simp -implicitDefEqProofs -dsimp (maxSteps := 10000000) only [af21_l0, ↓goes_loop, ↓goes_seq, ↓goes_reg, ↓goes_dreg, ↓goes_cond, ↓goes_block, ↓goes_skip, ↓goes_exit, ↓goes_ret, after_some, br_true, br_false, ↓then_normal, ↓then_exit, ↓then_ret, ↓blk_normal, ↓blk_exit, ↓blk_ret, ↓blk_other, ops_nil, ops_some, ops_none, oper_none, oper_some, gd_tt, gd_ff, gd_tf, gd_ft, gd_undef, ↓any_op, ↓any_call, ↓any_callV, ↓any_invoke, xo_t, xo_c, args_nil, args_cons, bin_add, bin_sub, bin_mul, bin_quo, bin_rem, bin_and, bin_or, bin_xor, bin_andNot, bin_eql, bin_neq, bin_lss, bin_leq, bin_gtr, bin_geq, bin_shl, bin_shr, bin_bools, bin_strs, bin_ptrs, bin_slices, bin_aggs, ↓Option.bind_some, ↓Option.map_some, ↓cond_true, ↓cond_false, evC, evOp, XO.lit, setArgs, Tr.get_set, Option.bind_some, Option.map_some, cond_true, cond_false, maxI, maxFrom, minI, minFrom, aConv, aBinE, aEq, eqScal, aUn, evRes, fin, oneOf, if_true, if_false, callee, reduceCtorEq, Nat.reduceEqDiff, and_self, decide_true, decide_false, beq_true, beq_false, Bool.not_true, Bool.not_false, List.getElem?_cons_zero, List.getElem?_cons_succ, beq_self_eq_true, gt_iff_lt, ble_dec, beq_dec, List.head?_cons, AV.undef, eq_self, ne_eq, not_true_eq_false, not_false_eq_true, Int.reduceLT, Int.reduceLE, Int.reduceToNat, Int.reduceEq, Int.reduceNeg, Nat.reduceAdd, Nat.reduceLT, Nat.reduceLeDiff, Nat.reduceMul, Nat.reduceSub, AV.cells, AV.tup, Bool.true_and, true_and, and_true, List.drop_nil, List.append_nil, rd_put, rd_alloc, rdO, St.get_put, St.get_alloc, St.next_put, St.next_alloc, St.wr, Bool.and_self, Bool.and_true, List.length_cons, List.length_nil, List.take_succ_cons, List.take_zero, List.drop_succ_cons, List.drop_zero, List.cons_append, List.nil_append, Nat.zero_add, Nat.add_zero, Nat.reduceMul, aFill, evParts, rep, List.replicate_succ, List.replicate_zero, List.flatten_cons, List.flatten_nil, List.append_nil, newSl, newVar, t3, t6, t7, t8, c1, hix, hz, hA, rA, h35, hB, Nat.one_mul, rB, hap, wj]
  refine ⟨m - 1, ⟨?_, ?_, j + 1, p', 3, ?_, by omega, ?_, by rw [htk]; exact G'⟩, by show m - 1 < m; omega⟩ <;> simp only [Tr.get_set, Nat.reduceEqDiff, if_false, if_true, t6, t7]
theorem T21 (k : Nat) {S : St} {p : Option (Nat × Nat × Nat)} {c : Option Nat} {e : Nat} {l : List Tp} (h : Ty S p e l) (hn : l.length ≤ 1000) :
    ∃ p' e' S', evF Y AP (k + 1100) 21 [.slice p l.length e c] S = some (.slice p' l.length e' none, S') ∧ Gt S S' p' e' (l.map heldT) := by
  suffices hh : ∃ v' S', evF Y AP (k + 1100) 21 [.slice p l.length e c] S = some (v', S') ∧ ∃ p' e', v' = .slice p' l.length e' none ∧ Gt S S' p' e' (l.map heldT) by
    obtain ⟨v', S', h1, p', e', rfl, h2⟩ := hh; exact ⟨p', e', S', h1, h2⟩
  have hmx := h.mx
  refine evF_goes (af := af21) (k := k + 1099) rfl rfl rfl ?_
  simp -implicitDefEqProofs -dsimp (maxSteps := 10000000) only [af21, ↓goes_loop, ↓goes_seq, ↓goes_reg, ↓goes_dreg, ↓goes_cond, ↓goes_block, ↓goes_skip, ↓goes_exit, ↓goes_ret, after_some, br_true, br_false, ↓then_normal, ↓then_exit, ↓then_ret, ↓blk_normal, ↓blk_exit, ↓blk_ret, ↓blk_other, ops_nil, ops_some, ops_none, oper_none, oper_some, gd_tt, gd_ff, gd_tf, gd_ft, gd_undef, ↓any_op, ↓any_call, ↓any_callV, ↓any_invoke, xo_t, xo_c, args_nil, args_cons, bin_add, bin_sub, bin_mul, bin_quo, bin_rem, bin_and, bin_or, bin_xor, bin_andNot, bin_eql, bin_neq, bin_lss, bin_leq, bin_gtr, bin_geq, bin_shl, bin_shr, bin_bools, bin_strs, bin_ptrs, bin_slices, bin_aggs, ↓Option.bind_some, ↓Option.map_some, ↓cond_true, ↓cond_false, evC, evOp, XO.lit, setArgs, Tr.tabG, Tr.tabS, Tr.tabL, Tr.get_lf, Option.bind_some, Option.map_some, cond_true, cond_false, maxI, maxFrom, minI, minFrom, aConv, aBinE, aEq, eqScal, aUn, evRes, fin, oneOf, if_true, if_false, callee, reduceCtorEq, Nat.reduceEqDiff, and_self, decide_true, decide_false, beq_true, beq_false, Bool.not_true, Bool.not_false, List.getElem?_cons_zero, List.getElem?_cons_succ, beq_self_eq_true, gt_iff_lt, ble_dec, beq_dec, List.head?_cons, AV.undef, eq_self, ne_eq, not_true_eq_false, not_false_eq_true, Int.reduceLT, Int.reduceLE, Int.reduceToNat, Int.reduceEq, Int.reduceNeg, Nat.reduceAdd, Nat.reduceLT, Nat.reduceLeDiff, Nat.reduceMul, Nat.reduceSub, hmx]
  refine .while (I21 p c e l S) id l.length ⟨rfl, rfl, 0, none, 0, rfl, by omega, rfl, .zero _ _⟩ (by show l.length < k + 1099; omega) fun m2 T2 S2 h2 => (round21 k h hn m2 T2 S2 h2).mono ?_
  intro r T' S' hq
  cases r with
  | normal => exact hq
  | ret => exact absurd hq.1 (by simp)
  | exit i =>
    obtain ⟨hi, t6, t7, j, po, eo, t8, hm, t3, G⟩ := hq
    cases hi
    obtain rfl : j = l.length := by omega
    rw [List.take_length] at G
    simp -implicitDefEqProofs -dsimp (maxSteps := 10000000) only [↓goes_loop, ↓goes_seq, ↓goes_reg, ↓goes_dreg, ↓goes_cond, ↓goes_block, ↓goes_skip, ↓goes_exit, ↓goes_ret, after_some, br_true, br_false, ↓then_normal, ↓then_exit, ↓then_ret, ↓blk_normal, ↓blk_exit, ↓blk_ret, ↓blk_other, ops_nil, ops_some, ops_none, oper_none, oper_some, gd_tt, gd_ff, gd_tf, gd_ft, gd_undef, ↓any_op, ↓any_call, ↓any_callV, ↓any_invoke, xo_t, xo_c, args_nil, args_cons, bin_add, bin_sub, bin_mul, bin_quo, bin_rem, bin_and, bin_or, bin_xor, bin_andNot, bin_eql, bin_neq, bin_lss, bin_leq, bin_gtr, bin_geq, bin_shl, bin_shr, bin_bools, bin_strs, bin_ptrs, bin_slices, bin_aggs, ↓Option.bind_some, ↓Option.map_some, ↓cond_true, ↓cond_false, evC, evOp, XO.lit, setArgs, Tr.get_set, Option.bind_some, Option.map_some, cond_true, cond_false, maxI, maxFrom, minI, minFrom, aConv, aBinE, aEq, eqScal, aUn, evRes, fin, oneOf, if_true, if_false, callee, reduceCtorEq, Nat.reduceEqDiff, and_self, decide_true, decide_false, beq_true, beq_false, Bool.not_true, Bool.not_false, List.getElem?_cons_zero, List.getElem?_cons_succ, beq_self_eq_true, gt_iff_lt, ble_dec, beq_dec, List.head?_cons, AV.undef, eq_self, ne_eq, not_true_eq_false, not_false_eq_true, Int.reduceLT, Int.reduceLE, Int.reduceToNat, Int.reduceEq, Int.reduceNeg, Nat.reduceAdd, Nat.reduceLT, Nat.reduceLeDiff, Nat.reduceMul, Nat.reduceSub, t3]
    exact ⟨_, _, rfl, po, eo, rfl, G⟩
set_option maxHeartbeats 4000000 in
theorem round31 (k : Nat) {p : Option (Nat × Nat × Nat)} {c : Option Nat} {e : Nat} {l : List Tp} {Sb : St} (h : Ty Sb p e l) (hn : l.length ≤ 1000) (m : Nat) (T : Tm) (S : St) (hI : I21 p c e l Sb m T S) :
    Goes (evF Y AP (k + 1099)) (k + 1099) af31_l0 T S (Then (fun T' S' => ∃ m', I21 p c e l Sb m' T' S' ∧ id m' < id m) fun r T' S' => r = .exit 0 ∧ I21 p c e l Sb 0 T' S') := by
  obtain ⟨t6, t7, j, po, eo, t8, hm, t3, G⟩ := hI
  by_cases c1 : (j : Int) < (l.length : Int)
  rotate_left
  · simp -implicitDefEqProofs -dsimp (maxSteps := 10000000) only [af31_l0, ↓goes_loop, ↓goes_seq, ↓goes_reg, ↓goes_dreg, ↓goes_cond, ↓goes_block, ↓goes_skip, ↓goes_exit, ↓goes_ret, after_some, br_true, br_false, ↓then_normal, ↓then_exit, ↓then_ret, ↓blk_normal, ↓blk_exit, ↓blk_ret, ↓blk_other, ops_nil, ops_some, ops_none, oper_none, oper_some, gd_tt, gd_ff, gd_tf, gd_ft, gd_undef, ↓any_op, ↓any_call, ↓any_callV, ↓any_invoke, xo_t, xo_c, args_nil, args_cons, bin_add, bin_sub, bin_mul, bin_quo, bin_rem, bin_and, bin_or, bin_xor, bin_andNot, bin_eql, bin_neq, bin_lss, bin_leq, bin_gtr, bin_geq, bin_shl, bin_shr, bin_bools, bin_strs, bin_ptrs, bin_slices, bin_aggs, ↓Option.bind_some, ↓Option.map_some, ↓cond_true, ↓cond_false, evC, evOp, XO.lit, setArgs, Tr.get_set, Option.bind_some, Option.map_some, cond_true, cond_false, maxI, maxFrom, minI, minFrom, aConv, aBinE, aEq, eqScal, aUn, evRes, fin, oneOf, if_true, if_false, callee, reduceCtorEq, Nat.reduceEqDiff, and_self, decide_true, decide_false, beq_true, beq_false, Bool.not_true, Bool.not_false, List.getElem?_cons_zero, List.getElem?_cons_succ, beq_self_eq_true, gt_iff_lt, ble_dec, beq_dec, List.head?_cons, AV.undef, eq_self, ne_eq, not_true_eq_false, not_false_eq_true, Int.reduceLT, Int.reduceLE, Int.reduceToNat, Int.reduceEq, Int.reduceNeg, Nat.reduceAdd, Nat.reduceLT, Nat.reduceLeDiff, Nat.reduceMul, Nat.reduceSub, AV.cells, AV.tup, Bool.true_and, true_and, and_true, List.drop_nil, List.append_nil, rd_put, rd_alloc, rdO, St.get_put, St.get_alloc, St.next_put, St.next_alloc, St.wr, Bool.and_self, Bool.and_true, List.length_cons, List.length_nil, List.take_succ_cons, List.take_zero, List.drop_succ_cons, List.drop_zero, List.cons_append, List.nil_append, Nat.zero_add, Nat.add_zero, Nat.reduceMul, t7, t8, c1]
    refine ⟨?_, ?_, j, po, eo, ?_, by omega, ?_, G⟩ <;> simp only [Tr.get_set, Nat.reduceEqDiff, if_false, if_true, t3, t6, t7, t8]
  have hj : j < l.length := by omega
  obtain ⟨o, v, i, rfl, rfl, ho⟩ := h.some_ (by omega)
  have hix : ixOf (.int .i64 (j : Int)) l.length = some j := by rw [ix_ok (by omega) c1]; rfl
  have wj : IntKind.i64.wrap ((j : Int) + 1) = ((j + 1 : Nat) : Int) := w64_id (by omega) (by omega)
  have htk := map_take_succ hj heldT
  have hz : S.rd o v (i + j * 3) 3 = some [.int .u32 l[j].o, .int .u64 l[j].r, .int .i64 l[j].v] := by rw [G.ext.rd ho]; exact h.get hj
  obtain ⟨a, ha⟩ : ∃ a, l[j] = a := ⟨_, rfl⟩
  rw [ha] at hz htk
  obtain ⟨A, hA⟩ : ∃ A, (S.alloc (.cells [.int .u32 0, .int .u64 0, .int .i64 0] 0 0 true)).put S.next (.cells [.int .u32 a.o, .int .u64 a.r, .int .i64 a.v] 0 0 true) = A := ⟨_, rfl⟩
  have eA : Ext S A := by rw [← hA]; exact (Ext.alloc S _).then_put (Nat.le_refl _) _
  have nA : A.next = S.next + 1 := by rw [← hA]; rfl
  have rA : ∀ v i m, A.rd S.next v i m = rdO (.cells [.int .u32 a.o, .int .u64 a.r, .int .i64 a.v] 0 0 true) v i m := rd_of (by rw [← hA, St.get_put, if_pos rfl])
  have h35 : evF Y AP (k + 1099) 43 [.agg [.int .u32 a.o, .int .u64 a.r, .int .i64 a.v]] A = some (tpv (heldT a), A) := y43 (k + 1098) A a
  obtain ⟨b, hb⟩ : ∃ b, heldT a = b := ⟨_, rfl⟩
  rw [hb] at h35 htk
  obtain ⟨B, hB⟩ : ∃ B, A.alloc (.cells [.int .u32 b.o, .int .u64 b.r, .int .i64 b.v] 0 0 true) = B := ⟨_, rfl⟩
  have eB : Ext A B := by rw [← hB]; exact .alloc _ _
  have rB : B.rd A.next 0 0 3 = some [.int .u32 b.o, .int .u64 b.r, .int .i64 b.v] := by rw [← hB, rd_alloc, if_pos rfl]; rfl
  have hl : ((l.take j).map heldT).length = j := by rw [List.length_map, List.length_take]; omega
  obtain ⟨p', S', hap, G', _⟩ := (G.more (eA.trans eB)).app1 b (by omega)
  rw [hl] at hap
  simp -implicitDefEqProofs -dsimp (maxSteps := 10000000) only [af31_l0, ↓goes_loop, ↓goes_seq, ↓goes_reg, ↓goes_dreg, ↓goes_cond, ↓goes_block, ↓goes_skip, ↓goes_exit, ↓goes_ret, after_some, br_true, br_false, ↓then_normal, ↓then_exit, ↓then_ret, ↓blk_normal, ↓blk_exit, ↓blk_ret, ↓blk_other, ops_nil, ops_some, ops_none, oper_none, oper_some, gd_tt, gd_ff, gd_tf, gd_ft, gd_undef, ↓any_op, ↓any_call, ↓any_callV, ↓any_invoke, xo_t, xo_c, args_nil, args_cons, bin_add, bin_sub, bin_mul, bin_quo, bin_rem, bin_and, bin_or, bin_xor, bin_andNot, bin_eql, bin_neq, bin_lss, bin_leq, bin_gtr, bin_geq, bin_shl, bin_shr, bin_bools, bin_strs, bin_ptrs, bin_slices, bin_aggs, ↓Option.bind_some, ↓Option.map_some, ↓cond_true, ↓cond_false, evC, evOp, XO.lit, setArgs, Tr.get_set, Option.bind_some, Option.map_some, cond_true, cond_false, maxI, maxFrom, minI, minFrom, aConv, aBinE, aEq, eqScal, aUn, evRes, fin, oneOf, if_true, if_false, callee, reduceCtorEq, Nat.reduceEqDiff, and_self, decide_true, decide_false, beq_true, beq_false, Bool.not_true, Bool.not_false, List.getElem?_cons_zero, List.getElem?_cons_succ, beq_self_eq_true, gt_iff_lt, ble_dec, beq_dec, List.head?_cons, AV.undef, eq_self, ne_eq, not_true_eq_false, not_false_eq_true, Int.reduceLT, Int.reduceLE, Int.reduceToNat, Int.reduceEq, Int.reduceNeg, Nat.reduceAdd, Nat.reduceLT, Nat.reduceLeDiff, Nat.reduceMul, Nat.reduceSub, AV.cells, AV.tup, Bool.true_and, true_and, and_true, List.drop_nil, List.append_nil, rd_put, rd_alloc, rdO, St.get_put, St.get_alloc, St.next_put, St.next_alloc, St.wr, Bool.and_self, Bool.and_true, List.length_cons, List.length_nil, List.take_succ_cons, List.take_zero, List.drop_succ_cons, List.drop_zero, List.cons_append, List.nil_append, Nat.zero_add, Nat.add_zero, Nat.reduceMul, aFill, evParts, rep, List.replicate_succ, List.replicate_zero, List.flatten_cons, List.flatten_nil, List.append_nil, newSl, newVar, t3, t6, t7, t8, c1, hix, hz, hA, rA, h35, hB, Nat.one_mul, rB, hap, wj]
  refine ⟨m - 1, ⟨?_, ?_, j + 1, p', 3, ?_, by omega, ?_, by rw [htk]; exact G'⟩, by show m - 1 < m; omega⟩ <;> simp only [Tr.get_set, Nat.reduceEqDiff, if_false, if_true, t6, t7]
theorem T31 (k : Nat) {S : St} {p : Option (Nat × Nat × Nat)} {c : Option Nat} {e : Nat} {l : List Tp} (h : Ty S p e l) (hn : l.length ≤ 1000) :
    ∃ p' e' S', evF Y AP (k + 1100) 31 [.slice p l.length e c] S = some (.slice p' l.length e' none, S') ∧ Gt S S' p' e' (l.map heldT) := by
  suffices hh : ∃ v' S', evF Y AP (k + 1100) 31 [.slice p l.length e c] S = some (v', S') ∧ ∃ p' e', v' = .slice p' l.length e' none ∧ Gt S S' p' e' (l.map heldT) by
    obtain ⟨v', S', h1, p', e', rfl, h2⟩ := hh; exact ⟨p', e', S', h1, h2⟩
  have hmx := h.mx
  refine evF_goes (af := af31) (k := k + 1099) rfl rfl rfl ?_
  simp -implicitDefEqProofs -dsimp (maxSteps := 10000000) only [af31, ↓goes_loop, ↓goes_seq, ↓goes_reg, ↓goes_dreg, ↓goes_cond, ↓goes_block, ↓goes_skip, ↓goes_exit, ↓goes_ret, after_some, br_true, br_false, ↓then_normal, ↓then_exit, ↓then_ret, ↓blk_normal, ↓blk_exit, ↓blk_ret, ↓blk_other, ops_nil, ops_some, ops_none, oper_none, oper_some, gd_tt, gd_ff, gd_tf, gd_ft, gd_undef, ↓any_op, ↓any_call, ↓any_callV, ↓any_invoke, xo_t, xo_c, args_nil, args_cons, bin_add, bin_sub, bin_mul, bin_quo, bin_rem, bin_and, bin_or, bin_xor, bin_andNot, bin_eql, bin_neq, bin_lss, bin_leq, bin_gtr, bin_geq, bin_shl, bin_shr, bin_bools, bin_strs, bin_ptrs, bin_slices, bin_aggs, ↓Option.bind_some, ↓Option.map_some, ↓cond_true, ↓cond_false, evC, evOp, XO.lit, setArgs, Tr.tabG, Tr.tabS, Tr.tabL, Tr.get_lf, Option.bind_some, Option.map_some, cond_true, cond_false, maxI, maxFrom, minI, minFrom, aConv, aBinE, aEq, eqScal, aUn, evRes, fin, oneOf, if_true, if_false, callee, reduceCtorEq, Nat.reduceEqDiff, and_self, decide_true, decide_false, beq_true, beq_false, Bool.not_true, Bool.not_false, List.getElem?_cons_zero, List.getElem?_cons_succ, beq_self_eq_true, gt_iff_lt, ble_dec, beq_dec, List.head?_cons, AV.undef, eq_self, ne_eq, not_true_eq_false, not_false_eq_true, Int.reduceLT, Int.reduceLE, Int.reduceToNat, Int.reduceEq, Int.reduceNeg, Nat.reduceAdd, Nat.reduceLT, Nat.reduceLeDiff, Nat.reduceMul, Nat.reduceSub, hmx]
  refine .while (I21 p c e l S) id l.length ⟨rfl, rfl, 0, none, 0, rfl, by omega, rfl, .zero _ _⟩ (by show l.length < k + 1099; omega) fun m2 T2 S2 h2 => (round31 k h hn m2 T2 S2 h2).mono ?_
  intro r T' S' hq
  cases r with
  | normal => exact hq
  | ret => exact absurd hq.1 (by simp)
  | exit i =>
    obtain ⟨hi, t6, t7, j, po, eo, t8, hm, t3, G⟩ := hq
    cases hi
    obtain rfl : j = l.length := by omega
    rw [List.take_length] at G
    simp -implicitDefEqProofs -dsimp (maxSteps := 10000000) only [↓goes_loop, ↓goes_seq, ↓goes_reg, ↓goes_dreg, ↓goes_cond, ↓goes_block, ↓goes_skip, ↓goes_exit, ↓goes_ret, after_some, br_true, br_false, ↓then_normal, ↓then_exit, ↓then_ret, ↓blk_normal, ↓blk_exit, ↓blk_ret, ↓blk_other, ops_nil, ops_some, ops_none, oper_none, oper_some, gd_tt, gd_ff, gd_tf, gd_ft, gd_undef, ↓any_op, ↓any_call, ↓any_callV, ↓any_invoke, xo_t, xo_c, args_nil, args_cons, bin_add, bin_sub, bin_mul, bin_quo, bin_rem, bin_and, bin_or, bin_xor, bin_andNot, bin_eql, bin_neq, bin_lss, bin_leq, bin_gtr, bin_geq, bin_shl, bin_shr, bin_bools, bin_strs, bin_ptrs, bin_slices, bin_aggs, ↓Option.bind_some, ↓Option.map_some, ↓cond_true, ↓cond_false, evC, evOp, XO.lit, setArgs, Tr.get_set, Option.bind_some, Option.map_some, cond_true, cond_false, maxI, maxFrom, minI, minFrom, aConv, aBinE, aEq, eqScal, aUn, evRes, fin, oneOf, if_true, if_false, callee, reduceCtorEq, Nat.reduceEqDiff, and_self, decide_true, decide_false, beq_true, beq_false, Bool.not_true, Bool.not_false, List.getElem?_cons_zero, List.getElem?_cons_succ, beq_self_eq_true, gt_iff_lt, ble_dec, beq_dec, List.head?_cons, AV.undef, eq_self, ne_eq, not_true_eq_false, not_false_eq_true, Int.reduceLT, Int.reduceLE, Int.reduceToNat, Int.reduceEq, Int.reduceNeg, Nat.reduceAdd, Nat.reduceLT, Nat.reduceLeDiff, Nat.reduceMul, Nat.reduceSub, t3]
    exact ⟨_, _, rfl, po, eo, rfl, G⟩
/-- slices.Clip -/
theorem T28 (k : Nat) {S S0 : St} {p : Option (Nat × Nat × Nat)} {e : Nat} {l : List Tp} (h : Gt S0 S p e l) (hm : l.length ≤ 100000) : ∃ p' e' c', evF Y AP (k + 3) 28 [.slice p l.length e none] S = some (.slice p' l.length e' c', S) ∧ Ty S p' e' l := by
  have hb := h.ty (by omega)
  have hm' : l.length ≤ 9223372036854775807 := by omega
  rcases p with _ | ⟨o, v, i⟩
  · obtain rfl := hb.nil rfl
    refine ⟨none, 3, none, ?_, .zero S 3⟩
    rw [evF_body (af := af28) rfl rfl rfl]
    simp -implicitDefEqProofs -dsimp (maxSteps := 10000000) only [af28, ops_nil, ops_some, ops_none, oper_none, oper_some, gd_tt, gd_ff, gd_tf, gd_ft, gd_undef, ↓any_op, ↓any_call, ↓any_callV, ↓any_invoke, xo_t, xo_c, args_nil, args_cons, bin_add, bin_sub, bin_mul, bin_quo, bin_rem, bin_and, bin_or, bin_xor, bin_andNot, bin_eql, bin_neq, bin_lss, bin_leq, bin_gtr, bin_geq, bin_shl, bin_shr, bin_bools, bin_strs, bin_ptrs, bin_slices, bin_aggs, ↓Option.bind_some, ↓Option.map_some, ↓cond_true, ↓cond_false, evC, evOp, XO.lit, setArgs, Tr.tabG, Tr.tabS, Tr.tabL, Tr.get_lf, Option.bind_some, Option.map_some, cond_true, cond_false, maxI, maxFrom, minI, minFrom, aConv, aBinE, aEq, eqScal, aUn, evRes, fin, oneOf, if_true, if_false, callee, reduceCtorEq, Nat.reduceEqDiff, and_self, decide_true, decide_false, beq_true, beq_false, Bool.not_true, Bool.not_false, List.getElem?_cons_zero, List.getElem?_cons_succ, beq_self_eq_true, gt_iff_lt, ble_dec, beq_dec, List.head?_cons, AV.undef, eq_self, ne_eq, not_true_eq_false, not_false_eq_true, Int.reduceLT, Int.reduceLE, Int.reduceToNat, Int.reduceEq, Int.reduceNeg, Nat.reduceAdd, Nat.reduceLT, Nat.reduceLeDiff, Nat.reduceMul, Nat.reduceSub, ↓evDraw_nil, bir, putD, evDraw, trace, List.all_cons, List.all_nil, chk, stAt, again, sameV, sameL, sameA, AV.undef, Bool.and_self, Bool.and_true, decide_eq_true_eq, List.getElem?_nil, aFill, evParts, rep, List.replicate_succ, List.replicate_zero, List.flatten_cons, List.flatten_nil, List.append_nil, newSl, newVar, evOpt, List.length_nil]
    rfl
  · obtain rfl := hb.ez.resolve_left (by simp)
    refine ⟨some (o, v, i), 3, some l.length, ?_, hb⟩
    have b1 : bnd (some (.int .i64 (l.length : Int))) 0 l.length = some l.length := by simp [bnd]
    have b2 : bnd none 0 l.length = some 0 := rfl
    rw [evF_body (af := af28) rfl rfl rfl]
    simp -implicitDefEqProofs -dsimp (maxSteps := 10000000) only [af28, ops_nil, ops_some, ops_none, oper_none, oper_some, gd_tt, gd_ff, gd_tf, gd_ft, gd_undef, ↓any_op, ↓any_call, ↓any_callV, ↓any_invoke, xo_t, xo_c, args_nil, args_cons, bin_add, bin_sub, bin_mul, bin_quo, bin_rem, bin_and, bin_or, bin_xor, bin_andNot, bin_eql, bin_neq, bin_lss, bin_leq, bin_gtr, bin_geq, bin_shl, bin_shr, bin_bools, bin_strs, bin_ptrs, bin_slices, bin_aggs, ↓Option.bind_some, ↓Option.map_some, ↓cond_true, ↓cond_false, evC, evOp, XO.lit, setArgs, Tr.tabG, Tr.tabS, Tr.tabL, Tr.get_lf, Option.bind_some, Option.map_some, cond_true, cond_false, maxI, maxFrom, minI, minFrom, aConv, aBinE, aEq, eqScal, aUn, evRes, fin, oneOf, if_true, if_false, callee, reduceCtorEq, Nat.reduceEqDiff, and_self, decide_true, decide_false, beq_true, beq_false, Bool.not_true, Bool.not_false, List.getElem?_cons_zero, List.getElem?_cons_succ, beq_self_eq_true, gt_iff_lt, ble_dec, beq_dec, List.head?_cons, AV.undef, eq_self, ne_eq, not_true_eq_false, not_false_eq_true, Int.reduceLT, Int.reduceLE, Int.reduceToNat, Int.reduceEq, Int.reduceNeg, Nat.reduceAdd, Nat.reduceLT, Nat.reduceLeDiff, Nat.reduceMul, Nat.reduceSub, ↓evDraw_nil, bir, putD, evDraw, trace, List.all_cons, List.all_nil, chk, stAt, again, sameV, sameL, sameA, AV.undef, Bool.and_self, Bool.and_true, decide_eq_true_eq, List.getElem?_nil, aFill, evParts, rep, List.replicate_succ, List.replicate_zero, List.flatten_cons, List.flatten_nil, List.append_nil, newSl, newVar, evOpt, aCut, hm', b1, b2, Option.isSome_some, Nat.zero_mul, Nat.add_zero, Nat.sub_zero]
/-- How lines that meet a line are ordered. -/
def slopeI (s a b : Tp) : Int := orI (cmpI ((a.r - s.r) * (b.v - s.v)) ((b.r - s.r) * (a.v - s.v))) (tiesI a b)
theorem prod49 {x y : Int} (h0 : 0 ≤ x) (h1 : x ≤ 1099511627776) (h2 : 0 ≤ y) (h3 : y ≤ 511) : 0 ≤ x * y ∧ x * y ≤ 561850441793536 :=
  ⟨Int.mul_nonneg h0 h2, by have := Int.mul_le_mul h1 h3 h2 (by decide); omega⟩
theorem T39 (k : Nat) {S : St} {os : Nat} {s a b : Tp} (hs : S.get os = some (cell s)) (hos : os < S.next) (ks : OkH s) (ka : OkH a) (kb : OkH b) (ra : s.r ≤ a.r) (rb : s.r ≤ b.r) (va : s.v < a.v) (vb : s.v < b.v) :
    ∃ S', evF Y AP (k + 8) 39 [tpv a, tpv b, pt3 os] S = some (.int .i64 (slopeI s a b), S') ∧ Ext S S' := by
  have := ks.r0; have := ka.r1; have := kb.r1; have := ks.v0; have := ka.v1; have := kb.v1
  rw [evF_body (af := af39) rfl rfl rfl]
  obtain ⟨A, hA⟩ : ∃ A, (S.alloc (.cells [.int .u32 a.o, .int .u64 a.r, .int .i64 a.v] 0 0 true)).alloc (.cells [.int .u32 b.o, .int .u64 b.r, .int .i64 b.v] 0 0 true) = A := ⟨_, rfl⟩
  have eA : Ext S A := by rw [← hA]; exact (Ext.alloc _ _).then_alloc _
  have nA : A.next = S.next + 2 := by rw [← hA]; rfl
  have r0 : ∀ v i m, A.rd os v i m = rdO (cell s) v i m := rd_of (eA.get hos hs)
  have r1 : ∀ v i m, A.rd S.next v i m = rdO (.cells [.int .u32 a.o, .int .u64 a.r, .int .i64 a.v] 0 0 true) v i m := rd_of (by rw [← hA, St.get_alloc, if_neg (by show ¬ S.next = S.next + 1; omega), St.get_alloc, if_pos rfl])
  have r2 : ∀ v i m, A.rd (S.next + 1) v i m = rdO (.cells [.int .u32 b.o, .int .u64 b.r, .int .i64 b.v] 0 0 true) v i m := rd_of (by rw [← hA, St.get_alloc]; exact if_pos rfl)
  have p1 := prod49 (x := a.r - s.r) (y := b.v - s.v) (by omega) (by omega) (by omega) (by omega)
  have p2 := prod49 (x := b.r - s.r) (y := a.v - s.v) (by omega) (by omega) (by omega) (by omega)
  have w1 : IntKind.u64.wrap (a.r - s.r) = a.r - s.r := u64_id (by omega) (by omega)
  have w2 : IntKind.u64.wrap (b.r - s.r) = b.r - s.r := u64_id (by omega) (by omega)
  have w3 : IntKind.i64.wrap (a.v - s.v) = a.v - s.v := w64_id (by omega) (by omega)
  have w4 : IntKind.i64.wrap (b.v - s.v) = b.v - s.v := w64_id (by omega) (by omega)
  have w5 : IntKind.u64.wrap (a.v - s.v) = a.v - s.v := u64_id (by omega) (by omega)
  have w6 : IntKind.u64.wrap (b.v - s.v) = b.v - s.v := u64_id (by omega) (by omega)
  have w7 : IntKind.u64.wrap ((a.r - s.r) * (b.v - s.v)) = (a.r - s.r) * (b.v - s.v) := u64_id p1.1 (by omega)
  have w8 : IntKind.u64.wrap ((b.r - s.r) * (a.v - s.v)) = (b.r - s.r) * (a.v - s.v) := u64_id p2.1 (by omega)
  obtain ⟨B, hB⟩ : ∃ B, A.alloc (.cells [.int .i64 (cmpI ((a.r - s.r) * (b.v - s.v)) ((b.r - s.r) * (a.v - s.v))), .int .i64 (tiesI a b)] 0 0 true) = B := ⟨_, rfl⟩
  have eB : Ext A B := by rw [← hB]; exact .alloc _ _
  have rB : B.rd A.next 0 0 2 = some [.int .i64 (cmpI ((a.r - s.r) * (b.v - s.v)) ((b.r - s.r) * (a.v - s.v))), .int .i64 (tiesI a b)] := by rw [← hB, rd_alloc, if_pos rfl]; rfl
  have h24 := T24 (X := Y) (fun _ => rfl) (k + 2) rB
  have h24 : evF Y AP (k + 7) 24 [.slice (some (A.next, 0, 0)) 2 1 none] B = _ := h24
  refine ⟨B, ?_, eA.trans eB⟩
  simp -implicitDefEqProofs -dsimp (maxSteps := 10000000) only [af39, ops_nil, ops_some, ops_none, oper_none, oper_some, gd_tt, gd_ff, gd_tf, gd_ft, gd_undef, ↓any_op, ↓any_call, ↓any_callV, ↓any_invoke, xo_t, xo_c, args_nil, args_cons, bin_add, bin_sub, bin_mul, bin_quo, bin_rem, bin_and, bin_or, bin_xor, bin_andNot, bin_eql, bin_neq, bin_lss, bin_leq, bin_gtr, bin_geq, bin_shl, bin_shr, bin_bools, bin_strs, bin_ptrs, bin_slices, bin_aggs, ↓Option.bind_some, ↓Option.map_some, ↓cond_true, ↓cond_false, evC, evOp, XO.lit, setArgs, Tr.tabG, Tr.tabS, Tr.tabL, Tr.get_lf, Option.bind_some, Option.map_some, cond_true, cond_false, maxI, maxFrom, minI, minFrom, aConv, aBinE, aEq, eqScal, aUn, evRes, fin, oneOf, if_true, if_false, callee, reduceCtorEq, Nat.reduceEqDiff, and_self, decide_true, decide_false, beq_true, beq_false, Bool.not_true, Bool.not_false, List.getElem?_cons_zero, List.getElem?_cons_succ, beq_self_eq_true, gt_iff_lt, ble_dec, beq_dec, List.head?_cons, AV.undef, eq_self, ne_eq, not_true_eq_false, not_false_eq_true, Int.reduceLT, Int.reduceLE, Int.reduceToNat, Int.reduceEq, Int.reduceNeg, Nat.reduceAdd, Nat.reduceLT, Nat.reduceLeDiff, Nat.reduceMul, Nat.reduceSub, ↓evDraw_nil, bir, putD, evDraw, trace, List.all_cons, List.all_nil, chk, stAt, again, sameV, sameL, sameA, AV.undef, Bool.and_self, Bool.and_true, decide_eq_true_eq, List.getElem?_nil, AV.cells, AV.tup, Bool.true_and, true_and, and_true, List.drop_nil, List.append_nil, rd_put, rd_alloc, rdO, St.get_put, St.get_alloc, St.next_put, St.next_alloc, St.wr, Bool.and_self, Bool.and_true, List.length_cons, List.length_nil, List.take_succ_cons, List.take_zero, List.drop_succ_cons, List.drop_zero, List.cons_append, List.nil_append, Nat.zero_add, Nat.add_zero, Nat.reduceMul, aFill, evParts, rep, List.replicate_succ, List.replicate_zero, List.flatten_cons, List.flatten_nil, List.append_nil, newSl, newVar, ne1, ne1', hA, r0, r1, r2, cell, w1, w2, w3, w4, w5, w6, w7, w8, y25, y26, hB, h24]
  rfl
end Go.Proofs.YtkbooepiomobdaaA
