/- Chapter 13: the next line; what bounds. -/
import Derived.Test.YtkbooepiomobdaaBdM
set_option linter.unusedVariables false
set_option linter.unusedSimpArgs false
set_option maxRecDepth 10000
namespace Go.Proofs.YtkbooepiomobdaaA
open Go.RowKit
attribute [local congr] bind_congr1 map_congr1 cond_congr1 withX_congr after_congr br_congr gd_congr

theorem filter_take_succ {l : List Tp} {j : Nat} (hj : j < l.length) (f : Tp → Bool) : (l.take (j + 1)).filter f = (l.take j).filter f ++ (if f l[j] = true then [l[j]] else []) := by
  rw [List.take_succ_eq_append_getElem hj, List.filter_append]
  by_cases h : f l[j] = true
  · rw [if_pos h, List.filter_cons_of_pos h]; rfl
  · rw [if_neg h, List.filter_cons_of_neg h]; rfl
structure I27 (p : Option (Nat × Nat × Nat)) (c : Option Nat) (e os or_ : Nat) (s : Tp) (l : List Tp) (Sb : St) (m : Nat) (T : Tm) (S : St) : Prop where
  t3 : T.get 3 = some (pt3 os)
  t4 : T.get 4 = some (pt3 or_)
  t10 : T.get 10 = some (.slice p l.length e c)
  t11 : T.get 11 = some (.int .i64 l.length)
  more : ∃ (j n : Nat) (po : Option (Nat × Nat × Nat)) (eo : Nat), T.get 12 = some (.int .i64 j) ∧ j + m = l.length ∧ T.get 6 = some (.slice po n eo none) ∧ n = (restP (l.take j) s).length ∧ Gt Sb S po eo (restP (l.take j) s)
set_option maxHeartbeats 4000000 in
theorem round27 (k : Nat) {p : Option (Nat × Nat × Nat)} {c : Option Nat} {e os or_ : Nat} {s : Tp} {l : List Tp} {Sb : St} (h : Ty Sb p e l) (hn : l.length ≤ 1000) (hs : Sb.get os = some (cell s)) (hos : os < Sb.next) (m : Nat) (T : Tm) (S : St) (hI : I27 p c e os or_ s l Sb m T S) :
    Goes (evF Y AP (k + 1100)) (k + 1100) af27_l0 T S (Then (fun T' S' => ∃ m', I27 p c e os or_ s l Sb m' T' S' ∧ id m' < id m) fun r T' S' => r = .exit 0 ∧ I27 p c e os or_ s l Sb 0 T' S') := by
  obtain ⟨t3, t4, t10, t11, j, n, po, eo, t12, hm, t6, hnn, G⟩ := hI
  by_cases c1 : (j : Int) < (l.length : Int)
  rotate_left
  · simp -implicitDefEqProofs -dsimp (maxSteps := 10000000) only [af27_l0, ↓goes_loop, ↓goes_seq, ↓goes_reg, ↓goes_dreg, ↓goes_cond, ↓goes_block, ↓goes_skip, ↓goes_exit, ↓goes_ret, after_some, br_true, br_false, ↓then_normal, ↓then_exit, ↓then_ret, ↓blk_normal, ↓blk_exit, ↓blk_ret, ↓blk_other, ops_nil, ops_some, ops_none, oper_none, oper_some, gd_tt, gd_ff, gd_tf, gd_ft, gd_undef, ↓any_op, ↓any_call, ↓any_callV, ↓any_invoke, xo_t, xo_c, args_nil, args_cons, bin_add, bin_sub, bin_mul, bin_quo, bin_rem, bin_and, bin_or, bin_xor, bin_andNot, bin_eql, bin_neq, bin_lss, bin_leq, bin_gtr, bin_geq, bin_shl, bin_shr, bin_bools, bin_strs, bin_ptrs, bin_slices, bin_aggs, ↓Option.bind_some, ↓Option.map_some, ↓cond_true, ↓cond_false, evC, evOp, XO.lit, setArgs, Tr.get_set, Option.bind_some, Option.map_some, cond_true, cond_false, maxI, maxFrom, minI, minFrom, aConv, aBinE, aEq, eqScal, aUn, evRes, fin, oneOf, if_true, if_false, callee, reduceCtorEq, Nat.reduceEqDiff, and_self, decide_true, decide_false, beq_true, beq_false, Bool.not_true, Bool.not_false, List.getElem?_cons_zero, List.getElem?_cons_succ, beq_self_eq_true, gt_iff_lt, ble_dec, beq_dec, List.head?_cons, AV.undef, eq_self, ne_eq, not_true_eq_false, not_false_eq_true, Int.reduceLT, Int.reduceLE, Int.reduceToNat, Int.reduceEq, Int.reduceNeg, Nat.reduceAdd, Nat.reduceLT, Nat.reduceLeDiff, Nat.reduceMul, Nat.reduceSub, AV.cells, AV.tup, Bool.true_and, true_and, and_true, List.drop_nil, List.append_nil, rd_put, rd_alloc, rdO, St.get_put, St.get_alloc, St.next_put, St.next_alloc, St.wr, Bool.and_self, Bool.and_true, List.length_cons, List.length_nil, List.take_succ_cons, List.take_zero, List.drop_succ_cons, List.drop_zero, List.cons_append, List.nil_append, Nat.zero_add, Nat.add_zero, Nat.reduceMul, t11, t12, c1]
    refine ⟨?_, ?_, ?_, ?_, j, n, po, eo, ?_, by omega, ?_, hnn, G⟩ <;> simp only [Tr.get_set, Nat.reduceEqDiff, if_false, if_true, t3, t4, t6, t10, t11, t12]
  have hj : j < l.length := by omega
  obtain ⟨o, v, i, rfl, rfl, ho⟩ := h.some_ (by omega)
  have hix : ixOf (.int .i64 (j : Int)) l.length = some j := by rw [ix_ok (by omega) c1]; rfl
  have wj : IntKind.i64.wrap ((j : Int) + 1) = ((j + 1 : Nat) : Int) := w64_id (by omega) (by omega)
  have htk : restP (l.take (j + 1)) s = _ := filter_take_succ hj (fun t => decide (s.v < t.v))
  have hz : S.rd o v (i + j * 3) 3 = some [.int .u32 l[j].o, .int .u64 l[j].r, .int .i64 l[j].v] := by rw [G.ext.rd ho]; exact h.get hj
  have hS : S.get os = some (cell s) := G.ext.get hos hs
  have hnx := G.ext.next
  obtain ⟨a, ha⟩ : ∃ a, l[j] = a := ⟨_, rfl⟩
  rw [ha] at hz htk
  have hl : (restP (l.take j) s).length ≤ j := by have := List.length_filter_le (fun t : Tp => decide (s.v < t.v)) (l.take j); rw [List.length_take] at this; unfold restP; omega
  obtain ⟨A, hA⟩ : ∃ A, (S.alloc (.cells [.int .u32 0, .int .u64 0, .int .i64 0] 0 0 true)).put S.next (.cells [.int .u32 a.o, .int .u64 a.r, .int .i64 a.v] 0 0 true) = A := ⟨_, rfl⟩
  have eA : Ext S A := by rw [← hA]; exact (Ext.alloc S _).then_put (Nat.le_refl _) _
  have nA : A.next = S.next + 1 := by rw [← hA]; rfl
  have rA : ∀ v i m, A.rd S.next v i m = rdO (.cells [.int .u32 a.o, .int .u64 a.r, .int .i64 a.v] 0 0 true) v i m := rd_of (by rw [← hA, St.get_put, if_pos rfl])
  have rs : ∀ v i m, A.rd os v i m = rdO (cell s) v i m := rd_of (eA.get (by omega) hS)
  by_cases c2 : s.v < a.v
  · have hd : decide (s.v < a.v) = true := decide_eq_true c2
    rw [if_pos hd] at htk
    obtain ⟨B, hB⟩ : ∃ B, A.alloc (.cells [.int .u32 a.o, .int .u64 a.r, .int .i64 a.v] 0 0 true) = B := ⟨_, rfl⟩
    have eB : Ext A B := by rw [← hB]; exact .alloc _ _
    have rB : B.rd A.next 0 0 3 = some [.int .u32 a.o, .int .u64 a.r, .int .i64 a.v] := by rw [← hB, rd_alloc, if_pos rfl]; rfl
    obtain ⟨p', S', hap, G', _⟩ := (G.more (eA.trans eB)).app1 a (by omega)
    rw [← hnn] at hap
    simp -implicitDefEqProofs -dsimp (maxSteps := 10000000) only [af27_l0, ↓goes_loop, ↓goes_seq, ↓goes_reg, ↓goes_dreg, ↓goes_cond, ↓goes_block, ↓goes_skip, ↓goes_exit, ↓goes_ret, after_some, br_true, br_false, ↓then_normal, ↓then_exit, ↓then_ret, ↓blk_normal, ↓blk_exit, ↓blk_ret, ↓blk_other, ops_nil, ops_some, ops_none, oper_none, oper_some, gd_tt, gd_ff, gd_tf, gd_ft, gd_undef, ↓any_op, ↓any_call, ↓any_callV, ↓any_invoke, xo_t, xo_c, args_nil, args_cons, bin_add, bin_sub, bin_mul, bin_quo, bin_rem, bin_and, bin_or, bin_xor, bin_andNot, bin_eql, bin_neq, bin_lss, bin_leq, bin_gtr, bin_geq, bin_shl, bin_shr, bin_bools, bin_strs, bin_ptrs, bin_slices, bin_aggs, ↓Option.bind_some, ↓Option.map_some, ↓cond_true, ↓cond_false, evC, evOp, XO.lit, setArgs, Tr.get_set, Option.bind_some, Option.map_some, cond_true, cond_false, maxI, maxFrom, minI, minFrom, aConv, aBinE, aEq, eqScal, aUn, evRes, fin, oneOf, if_true, if_false, callee, reduceCtorEq, Nat.reduceEqDiff, and_self, decide_true, decide_false, beq_true, beq_false, Bool.not_true, Bool.not_false, List.getElem?_cons_zero, List.getElem?_cons_succ, beq_self_eq_true, gt_iff_lt, ble_dec, beq_dec, List.head?_cons, AV.undef, eq_self, ne_eq, not_true_eq_false, not_false_eq_true, Int.reduceLT, Int.reduceLE, Int.reduceToNat, Int.reduceEq, Int.reduceNeg, Nat.reduceAdd, Nat.reduceLT, Nat.reduceLeDiff, Nat.reduceMul, Nat.reduceSub, AV.cells, AV.tup, Bool.true_and, true_and, and_true, List.drop_nil, List.append_nil, rd_put, rd_alloc, rdO, St.get_put, St.get_alloc, St.next_put, St.next_alloc, St.wr, Bool.and_self, Bool.and_true, List.length_cons, List.length_nil, List.take_succ_cons, List.take_zero, List.drop_succ_cons, List.drop_zero, List.cons_append, List.nil_append, Nat.zero_add, Nat.add_zero, Nat.reduceMul, aFill, evParts, rep, List.replicate_succ, List.replicate_zero, List.flatten_cons, List.flatten_nil, List.append_nil, newSl, newVar, t3, t6, t10, t11, t12, c1, hix, hz, hA, rA, rs, cell, c2, hB, Nat.one_mul, rB, hap, wj]
    refine ⟨m - 1, ⟨?_, ?_, ?_, ?_, j + 1, n + 1, p', 3, ?_, by omega, ?_, ?_, by rw [htk]; exact G'⟩, by show m - 1 < m; omega⟩
    iterate 6 (first | focus (simp only [Tr.get_set, Nat.reduceEqDiff, if_false, if_true, t3, t4, t10, t11]; done) | skip)
    rw [htk, List.length_append, hnn]; rfl
  · have hd : ¬ decide (s.v < a.v) = true := by rw [decide_eq_true_eq]; exact c2
    rw [if_neg hd, List.append_nil] at htk
    simp -implicitDefEqProofs -dsimp (maxSteps := 10000000) only [af27_l0, ↓goes_loop, ↓goes_seq, ↓goes_reg, ↓goes_dreg, ↓goes_cond, ↓goes_block, ↓goes_skip, ↓goes_exit, ↓goes_ret, after_some, br_true, br_false, ↓then_normal, ↓then_exit, ↓then_ret, ↓blk_normal, ↓blk_exit, ↓blk_ret, ↓blk_other, ops_nil, ops_some, ops_none, oper_none, oper_some, gd_tt, gd_ff, gd_tf, gd_ft, gd_undef, ↓any_op, ↓any_call, ↓any_callV, ↓any_invoke, xo_t, xo_c, args_nil, args_cons, bin_add, bin_sub, bin_mul, bin_quo, bin_rem, bin_and, bin_or, bin_xor, bin_andNot, bin_eql, bin_neq, bin_lss, bin_leq, bin_gtr, bin_geq, bin_shl, bin_shr, bin_bools, bin_strs, bin_ptrs, bin_slices, bin_aggs, ↓Option.bind_some, ↓Option.map_some, ↓cond_true, ↓cond_false, evC, evOp, XO.lit, setArgs, Tr.get_set, Option.bind_some, Option.map_some, cond_true, cond_false, maxI, maxFrom, minI, minFrom, aConv, aBinE, aEq, eqScal, aUn, evRes, fin, oneOf, if_true, if_false, callee, reduceCtorEq, Nat.reduceEqDiff, and_self, decide_true, decide_false, beq_true, beq_false, Bool.not_true, Bool.not_false, List.getElem?_cons_zero, List.getElem?_cons_succ, beq_self_eq_true, gt_iff_lt, ble_dec, beq_dec, List.head?_cons, AV.undef, eq_self, ne_eq, not_true_eq_false, not_false_eq_true, Int.reduceLT, Int.reduceLE, Int.reduceToNat, Int.reduceEq, Int.reduceNeg, Nat.reduceAdd, Nat.reduceLT, Nat.reduceLeDiff, Nat.reduceMul, Nat.reduceSub, AV.cells, AV.tup, Bool.true_and, true_and, and_true, List.drop_nil, List.append_nil, rd_put, rd_alloc, rdO, St.get_put, St.get_alloc, St.next_put, St.next_alloc, St.wr, Bool.and_self, Bool.and_true, List.length_cons, List.length_nil, List.take_succ_cons, List.take_zero, List.drop_succ_cons, List.drop_zero, List.cons_append, List.nil_append, Nat.zero_add, Nat.add_zero, Nat.reduceMul, aFill, evParts, rep, List.replicate_succ, List.replicate_zero, List.flatten_cons, List.flatten_nil, List.append_nil, newSl, newVar, t3, t6, t10, t11, t12, c1, hix, hz, hA, rA, rs, cell, c2, wj]
    refine ⟨m - 1, ⟨?_, ?_, ?_, ?_, j + 1, n, po, eo, ?_, by omega, ?_, ?_, by rw [htk]; exact G.more eA⟩, by show m - 1 < m; omega⟩
    iterate 6 (first | focus (simp only [Tr.get_set, Nat.reduceEqDiff, if_false, if_true, t3, t4, t6, t10, t11]; done) | skip)
    rw [htk]; exact hnn
def nextB (l : List Tp) (s : Tp) : Bool := !(restP l s).isEmpty && decide (s.v * ((bestP l s).r - s.r) < s.r * ((bestP l s).v - s.v))
theorem nextB_iff {l : List Tp} {s : Tp} : nextB l s = true ↔ restP l s ≠ [] ∧ meets l s := by
  unfold nextB meets
  rw [Bool.and_eq_true, decide_eq_true_eq, Bool.not_eq_true', List.isEmpty_eq_false_iff]
def nextT (l : List Tp) (s : Tp) : Tp := if (restP l s).isEmpty = true then ⟨0, 0, 0⟩ else bestP l s
set_option maxHeartbeats 4000000 in
theorem T27 (k : Nat) {S : St} {p : Option (Nat × Nat × Nat)} {c : Option Nat} {e : Nat} {l : List Tp} {s : Tp} (h : Ty S p e l) (hn : l.length ≤ 1000) (hl : ∀ t ∈ l, OkH t) (ks : OkH s) (hi : InvL l s) :
    ∃ S', evF Y AP (k + 1101) 27 [.slice p l.length e c, tpv s] S = some (.tuple [tpv (nextT l s), .bool (nextB l s)], S') ∧ Ext S S' := by
  have hmx := h.mx
  suffices hh : ∃ v' S', evF Y AP (k + 1101) 27 [.slice p l.length e c, tpv s] S = some (v', S') ∧ v' = .tuple [tpv (nextT l s), .bool (nextB l s)] ∧ Ext S S' by
    obtain ⟨v', S', h1, rfl, h2⟩ := hh; exact ⟨S', h1, h2⟩
  obtain ⟨A, hA⟩ : ∃ A, (S.alloc (.cells [.int .u32 s.o, .int .u64 s.r, .int .i64 s.v] 0 0 true)).alloc (.cells [.int .u32 0, .int .u64 0, .int .i64 0] 0 0 true) = A := ⟨_, rfl⟩
  have eA : Ext S A := by rw [← hA]; exact (Ext.alloc _ _).then_alloc _
  have nA : A.next = S.next + 2 := by rw [← hA]; rfl
  have g0 : A.get S.next = some (cell s) := by rw [← hA, St.get_alloc, if_neg (by show ¬ S.next = S.next + 1; omega), St.get_alloc, if_pos rfl]; rfl
  have g1 : A.get (S.next + 1) = some (cell ⟨0, 0, 0⟩) := by rw [← hA, St.get_alloc]; exact if_pos rfl
  have hA' := h.ext eA
  refine evF_goes (af := af27) (k := k + 1100) rfl rfl rfl ?_
  simp -implicitDefEqProofs -dsimp (maxSteps := 10000000) only [af27, ↓goes_loop, ↓goes_seq, ↓goes_reg, ↓goes_dreg, ↓goes_cond, ↓goes_block, ↓goes_skip, ↓goes_exit, ↓goes_ret, after_some, br_true, br_false, ↓then_normal, ↓then_exit, ↓then_ret, ↓blk_normal, ↓blk_exit, ↓blk_ret, ↓blk_other, ops_nil, ops_some, ops_none, oper_none, oper_some, gd_tt, gd_ff, gd_tf, gd_ft, gd_undef, ↓any_op, ↓any_call, ↓any_callV, ↓any_invoke, xo_t, xo_c, args_nil, args_cons, bin_add, bin_sub, bin_mul, bin_quo, bin_rem, bin_and, bin_or, bin_xor, bin_andNot, bin_eql, bin_neq, bin_lss, bin_leq, bin_gtr, bin_geq, bin_shl, bin_shr, bin_bools, bin_strs, bin_ptrs, bin_slices, bin_aggs, ↓Option.bind_some, ↓Option.map_some, ↓cond_true, ↓cond_false, evC, evOp, XO.lit, setArgs, Tr.tabG, Tr.tabS, Tr.tabL, Tr.get_lf, Option.bind_some, Option.map_some, cond_true, cond_false, maxI, maxFrom, minI, minFrom, aConv, aBinE, aEq, eqScal, aUn, evRes, fin, oneOf, if_true, if_false, callee, reduceCtorEq, Nat.reduceEqDiff, and_self, decide_true, decide_false, beq_true, beq_false, Bool.not_true, Bool.not_false, List.getElem?_cons_zero, List.getElem?_cons_succ, beq_self_eq_true, gt_iff_lt, ble_dec, beq_dec, List.head?_cons, AV.undef, eq_self, ne_eq, not_true_eq_false, not_false_eq_true, Int.reduceLT, Int.reduceLE, Int.reduceToNat, Int.reduceEq, Int.reduceNeg, Nat.reduceAdd, Nat.reduceLT, Nat.reduceLeDiff, Nat.reduceMul, Nat.reduceSub, AV.cells, AV.tup, Bool.true_and, true_and, and_true, List.drop_nil, List.append_nil, rd_put, rd_alloc, rdO, St.get_put, St.get_alloc, St.next_put, St.next_alloc, St.wr, Bool.and_self, Bool.and_true, List.length_cons, List.length_nil, List.take_succ_cons, List.take_zero, List.drop_succ_cons, List.drop_zero, List.cons_append, List.nil_append, Nat.zero_add, Nat.add_zero, Nat.reduceMul, aFill, evParts, rep, List.replicate_succ, List.replicate_zero, List.flatten_cons, List.flatten_nil, List.append_nil, newSl, newVar, hmx, hA]
  refine .while (I27 p c e S.next (S.next + 1) s l A) id l.length ⟨rfl, rfl, rfl, rfl, 0, 0, none, 0, rfl, by omega, rfl, rfl, .zero _ _⟩ (by show l.length < k + 1100; omega) fun m2 T2 S2 h2 => (round27 k hA' hn g0 (by omega) m2 T2 S2 h2).mono ?_
  intro r T' S' hq
  cases r with
  | normal => exact hq
  | ret => exact absurd hq.1 (by simp)
  | exit i =>
    obtain ⟨hi2, t3, t4, t10, t11, j, n, po, eo, t12, hm, t6, hnn, G⟩ := hq
    cases hi2
    obtain rfl : j = l.length := by omega
    rw [List.take_length] at G hnn
    have nx := G.ext.next
    have hln : n ≤ 1000 := by have := List.length_filter_le (fun t : Tp => decide (s.v < t.v)) l; unfold restP at hnn; omega
    have hmn : n ≤ 9223372036854775807 := by omega
    have g0' : S'.get S.next = some (cell s) := G.ext.get (by omega) g0
    have g1' : S'.get (S.next + 1) = some (cell ⟨0, 0, 0⟩) := G.ext.get (by omega) g1
    by_cases c1 : restP l s = []
    · have hn0 : n = 0 := by rw [hnn, c1]; rfl
      subst hn0
      simp -implicitDefEqProofs -dsimp (maxSteps := 10000000) only [↓goes_loop, ↓goes_seq, ↓goes_reg, ↓goes_dreg, ↓goes_cond, ↓goes_block, ↓goes_skip, ↓goes_exit, ↓goes_ret, after_some, br_true, br_false, ↓then_normal, ↓then_exit, ↓then_ret, ↓blk_normal, ↓blk_exit, ↓blk_ret, ↓blk_other, ops_nil, ops_some, ops_none, oper_none, oper_some, gd_tt, gd_ff, gd_tf, gd_ft, gd_undef, ↓any_op, ↓any_call, ↓any_callV, ↓any_invoke, xo_t, xo_c, args_nil, args_cons, bin_add, bin_sub, bin_mul, bin_quo, bin_rem, bin_and, bin_or, bin_xor, bin_andNot, bin_eql, bin_neq, bin_lss, bin_leq, bin_gtr, bin_geq, bin_shl, bin_shr, bin_bools, bin_strs, bin_ptrs, bin_slices, bin_aggs, ↓Option.bind_some, ↓Option.map_some, ↓cond_true, ↓cond_false, evC, evOp, XO.lit, setArgs, Tr.get_set, Option.bind_some, Option.map_some, cond_true, cond_false, maxI, maxFrom, minI, minFrom, aConv, aBinE, aEq, eqScal, aUn, evRes, fin, oneOf, if_true, if_false, callee, reduceCtorEq, Nat.reduceEqDiff, and_self, decide_true, decide_false, beq_true, beq_false, Bool.not_true, Bool.not_false, List.getElem?_cons_zero, List.getElem?_cons_succ, beq_self_eq_true, gt_iff_lt, ble_dec, beq_dec, List.head?_cons, AV.undef, eq_self, ne_eq, not_true_eq_false, not_false_eq_true, Int.reduceLT, Int.reduceLE, Int.reduceToNat, Int.reduceEq, Int.reduceNeg, Nat.reduceAdd, Nat.reduceLT, Nat.reduceLeDiff, Nat.reduceMul, Nat.reduceSub, AV.cells, AV.tup, Bool.true_and, true_and, and_true, List.drop_nil, List.append_nil, rd_put, rd_alloc, rdO, St.get_put, St.get_alloc, St.next_put, St.next_alloc, St.wr, Bool.and_self, Bool.and_true, List.length_cons, List.length_nil, List.take_succ_cons, List.take_zero, List.drop_succ_cons, List.drop_zero, List.cons_append, List.nil_append, Nat.zero_add, Nat.add_zero, Nat.reduceMul, aFill, evParts, rep, List.replicate_succ, List.replicate_zero, List.flatten_cons, List.flatten_nil, List.append_nil, newSl, newVar, t4, t6, hmn, Int.natCast_zero, g1', cell]
      refine ⟨_, _, rfl, ?_, (eA.trans G.ext).then_put (by omega) _⟩
      have : nextB l s = false := by unfold nextB; rw [c1]; rfl
      rw [this]
      unfold nextT
      rw [c1]; rfl
    · have hn0 : 0 < n := by rw [hnn]; exact List.length_pos_iff.2 c1
      have hz : ¬ (n : Int) = 0 := by omega
      have ty := G.ty (by omega)
      obtain ⟨hb1, hb2⟩ := best_mem c1
      have kb := hl _ hb1
      have rb := hi _ hb1 hb2
      obtain ⟨S3, h22, x3⟩ := T22 (k := k) (c := none) (g := 39) (caps := [pt3 S.next]) (f := slopeI s) ty (by omega) (by omega) fun a b S1 ha hb e1 => by
        have ma := mem_rest.1 ha
        have mb := mem_rest.1 hb
        exact T39 (k + 1091) (e1.get (by omega) g0') (by have := e1.next; omega) ks (hl _ ma.1) (hl _ mb.1) (hi _ ma.1 ma.2) (hi _ mb.1 mb.2) ma.2 mb.2
      rw [← hnn] at h22
      have nx3 := x3.next
      have hbest : minL (ltI (slopeI s)) (restP l s) = bestP l s := rfl
      rw [hbest] at h22
      have hie : (restP l s).isEmpty = false := List.isEmpty_eq_false_iff.2 c1
      have ht : nextT l s = bestP l s := by unfold nextT; rw [hie]; rfl
      have hB : nextB l s = decide (s.v * ((bestP l s).r - s.r) < s.r * ((bestP l s).v - s.v)) := by
        unfold nextB; rw [hie]; rfl
      rw [ht, hB]
      obtain ⟨b, hbb⟩ : ∃ b, bestP l s = b := ⟨_, rfl⟩
      rw [hbb] at h22 kb rb hb2
      rw [hbb]
      have := ks.r0; have := ks.r1; have := kb.r1; have := ks.v0; have := kb.v1
      have p1 := prod49 (x := s.r) (y := b.v - s.v) (by omega) (by omega) (by omega) (by omega)
      have p2 := prod49 (x := b.r - s.r) (y := s.v) (by omega) (by omega) (by omega) (by omega)
      rw [Int.mul_comm] at p2
      have w1 : IntKind.i64.wrap (b.v - s.v) = b.v - s.v := w64_id (by omega) (by omega)
      have w2 : IntKind.u64.wrap (b.v - s.v) = b.v - s.v := u64_id (by omega) (by omega)
      have w3 : IntKind.u64.wrap s.v = s.v := u64_id (by omega) (by omega)
      have w4 : IntKind.u64.wrap (b.r - s.r) = b.r - s.r := u64_id (by omega) (by omega)
      have w5 : IntKind.u64.wrap (s.r * (b.v - s.v)) = s.r * (b.v - s.v) := u64_id p1.1 (by omega)
      have w6 : IntKind.u64.wrap (s.v * (b.r - s.r)) = s.v * (b.r - s.r) := u64_id p2.1 (by omega)
      obtain ⟨B, hB2⟩ : ∃ B, (S3.alloc (.cells [.int .u32 0, .int .u64 0, .int .i64 0] 0 0 true)).put S3.next (.cells [.int .u32 b.o, .int .u64 b.r, .int .i64 b.v] 0 0 true) = B := ⟨_, rfl⟩
      have eB : Ext S3 B := by rw [← hB2]; exact (Ext.alloc S3 _).then_put (Nat.le_refl _) _
      have nB : B.next = S3.next + 1 := by rw [← hB2]; rfl
      have rB : ∀ v i m, B.rd S3.next v i m = rdO (.cells [.int .u32 b.o, .int .u64 b.r, .int .i64 b.v] 0 0 true) v i m := rd_of (by rw [← hB2, St.get_put, if_pos rfl])
      have rs : ∀ v i m, B.rd S.next v i m = rdO (cell s) v i m := rd_of (eB.get (by omega) (x3.get (by omega) g0'))
      have gr : B.get (S.next + 1) = some (cell ⟨0, 0, 0⟩) := eB.get (by omega) (x3.get (by omega) g1')
      have nn1 : ¬ S3.next = S.next + 1 := by omega
      have nn2 : ¬ S.next = S.next + 1 := by omega
      simp -implicitDefEqProofs -dsimp (maxSteps := 10000000) only [↓goes_loop, ↓goes_seq, ↓goes_reg, ↓goes_dreg, ↓goes_cond, ↓goes_block, ↓goes_skip, ↓goes_exit, ↓goes_ret, after_some, br_true, br_false, ↓then_normal, ↓then_exit, ↓then_ret, ↓blk_normal, ↓blk_exit, ↓blk_ret, ↓blk_other, ops_nil, ops_some, ops_none, oper_none, oper_some, gd_tt, gd_ff, gd_tf, gd_ft, gd_undef, ↓any_op, ↓any_call, ↓any_callV, ↓any_invoke, xo_t, xo_c, args_nil, args_cons, bin_add, bin_sub, bin_mul, bin_quo, bin_rem, bin_and, bin_or, bin_xor, bin_andNot, bin_eql, bin_neq, bin_lss, bin_leq, bin_gtr, bin_geq, bin_shl, bin_shr, bin_bools, bin_strs, bin_ptrs, bin_slices, bin_aggs, ↓Option.bind_some, ↓Option.map_some, ↓cond_true, ↓cond_false, evC, evOp, XO.lit, setArgs, Tr.get_set, Option.bind_some, Option.map_some, cond_true, cond_false, maxI, maxFrom, minI, minFrom, aConv, aBinE, aEq, eqScal, aUn, evRes, fin, oneOf, if_true, if_false, callee, reduceCtorEq, Nat.reduceEqDiff, and_self, decide_true, decide_false, beq_true, beq_false, Bool.not_true, Bool.not_false, List.getElem?_cons_zero, List.getElem?_cons_succ, beq_self_eq_true, gt_iff_lt, ble_dec, beq_dec, List.head?_cons, AV.undef, eq_self, ne_eq, not_true_eq_false, not_false_eq_true, Int.reduceLT, Int.reduceLE, Int.reduceToNat, Int.reduceEq, Int.reduceNeg, Nat.reduceAdd, Nat.reduceLT, Nat.reduceLeDiff, Nat.reduceMul, Nat.reduceSub, ↓evDraw_nil, bir, putD, evDraw, trace, List.all_cons, List.all_nil, chk, stAt, again, sameV, sameL, sameA, AV.undef, Bool.and_self, Bool.and_true, decide_eq_true_eq, List.getElem?_nil, AV.cells, AV.tup, Bool.true_and, true_and, and_true, List.drop_nil, List.append_nil, rd_put, rd_alloc, rdO, St.get_put, St.get_alloc, St.next_put, St.next_alloc, St.wr, Bool.and_self, Bool.and_true, List.length_cons, List.length_nil, List.take_succ_cons, List.take_zero, List.drop_succ_cons, List.drop_zero, List.cons_append, List.nil_append, Nat.zero_add, Nat.add_zero, Nat.reduceMul, aFill, evParts, rep, List.replicate_succ, List.replicate_zero, List.flatten_cons, List.flatten_nil, List.append_nil, newSl, newVar, t3, t4, t6, hmn, hz, h22, hB2, rB, rs, gr, cell, w1, w2, w3, w4, w5, w6, nn1, nn2]
      exact ⟨_, _, rfl, rfl, ((eA.trans G.ext).trans (x3.trans eB)).then_put (by omega) _⟩
end Go.Proofs.YtkbooepiomobdaaA
