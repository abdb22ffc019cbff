/- Chapter 13: BoundNumbers. -/
import Derived.Test.YtkbooepiomobdaaBdP
set_option linter.unusedVariables false
set_option linter.unusedSimpArgs false
set_option maxRecDepth 10000
namespace Go.Proofs.YtkbooepiomobdaaA
open Go.RowKit
attribute [local congr] bind_congr1 map_congr1 cond_congr1 withX_congr after_congr br_congr gd_congr

structure I3y (m : Nat) (T : Tm) (S : St) : Prop where
  more : ∃ i : Nat, T.get 1 = some (.int .i64 i) ∧ i + m = 60
set_option maxHeartbeats 8000000 in
theorem round3y (k : Nat) (m : Nat) (T : Tm) (S : St) (hI : I3y m T S) :
    Goes (evF Y AP (k + 1106)) (k + 1106) af3_l2 T S (Then (fun T' S' => ∃ m', I3y m' T' S' ∧ id m' < id m) fun r T' S' => r = .exit 0 ∧ I3y 0 T' S') := by
  obtain ⟨i, t1, hm⟩ := hI
  by_cases c1 : (i : Int) < 60
  rotate_left
  · obtain rfl : m = 0 := by omega
    simp -implicitDefEqProofs -dsimp (maxSteps := 10000000) only [af3_l2, ↓goes_loop, ↓goes_seq, ↓goes_reg, ↓goes_dreg, ↓goes_cond, ↓goes_block, ↓goes_skip, ↓goes_exit, ↓goes_ret, after_some, br_true, br_false, ↓then_normal, ↓then_exit, ↓then_ret, ↓blk_normal, ↓blk_exit, ↓blk_ret, ↓blk_other, ops_nil, ops_some, ops_none, oper_none, oper_some, gd_tt, gd_ff, gd_tf, gd_ft, gd_undef, ↓any_op, ↓any_call, ↓any_callV, ↓any_invoke, xo_t, xo_c, args_nil, args_cons, bin_add, bin_sub, bin_mul, bin_quo, bin_rem, bin_and, bin_or, bin_xor, bin_andNot, bin_eql, bin_neq, bin_lss, bin_leq, bin_gtr, bin_geq, bin_shl, bin_shr, bin_bools, bin_strs, bin_ptrs, bin_slices, bin_aggs, ↓Option.bind_some, ↓Option.map_some, ↓cond_true, ↓cond_false, evC, evOp, XO.lit, setArgs, Tr.get_set, Option.bind_some, Option.map_some, cond_true, cond_false, maxI, maxFrom, minI, minFrom, aConv, aBinE, aEq, eqScal, aUn, evRes, fin, oneOf, if_true, if_false, callee, reduceCtorEq, Nat.reduceEqDiff, and_self, decide_true, decide_false, beq_true, beq_false, Bool.not_true, Bool.not_false, List.getElem?_cons_zero, List.getElem?_cons_succ, beq_self_eq_true, gt_iff_lt, ble_dec, beq_dec, List.head?_cons, AV.undef, eq_self, ne_eq, not_true_eq_false, not_false_eq_true, Int.reduceLT, Int.reduceLE, Int.reduceToNat, Int.reduceEq, Int.reduceNeg, Nat.reduceAdd, Nat.reduceLT, Nat.reduceLeDiff, Nat.reduceMul, Nat.reduceSub, AV.cells, AV.tup, Bool.true_and, true_and, and_true, List.drop_nil, List.append_nil, rd_put, rd_alloc, rdO, St.get_put, St.get_alloc, St.next_put, St.next_alloc, St.wr, Bool.and_self, Bool.and_true, List.length_cons, List.length_nil, List.take_succ_cons, List.take_zero, List.drop_succ_cons, List.drop_zero, List.cons_append, List.nil_append, Nat.zero_add, Nat.add_zero, Nat.reduceMul, t1, c1]
    refine ⟨i, ?_, hm⟩
    simp only [Tr.get_set, Nat.reduceEqDiff, if_false, if_true, t1]
  have htm : (i : Int).tmod 9 = ((i % 9 : Nat) : Int) := by rw [Int.tmod_eq_emod_of_nonneg (by omega)]; omega
  have h9 : i % 9 < 9 := Nat.mod_lt _ (by decide)
  have w1 : IntKind.i64.wrap (1 + ((i % 9 : Nat) : Int)) = ((1 + i % 9 : Nat) : Int) := by rw [w64_id (by omega) (by omega)]; omega
  have wi : IntKind.i64.wrap ((i : Int) + 1) = ((i + 1 : Nat) : Int) := w64_id (by omega) (by omega)
  obtain ⟨pt, et, S1, q9, he, sl, hpt, x1⟩ := T9 (k + 605) S (i : Int)
  subst he
  have q9 : evF Y AP (k + 1106) 9 [.int .i64 i] S = _ := q9
  obtain ⟨p, e, l, S2, q8, G, hln, okl⟩ := T8 (k + 4) sl (fun o v j hp => (hpt o v j hp).2) (n := 1 + i % 9) (by omega)
  have q8 : evF Y AP (k + 1106) 8 [.slice pt 400 1 none, .int .i64 ((1 + i % 9 : Nat) : Int)] S1 = _ := q8
  obtain ⟨o, ver, hp, fk⟩ : ∃ o ver, p = some (o, ver, 0) ∧ Fk S2 o ver l := by
    rcases G.vec.at_ with ⟨_, h0⟩ | ⟨o, ver, minv, hp, h1, h2, h3⟩
    · omega
    · have htl := tcs_len l
      exact ⟨o, ver, hp, h1, tcs l, ver, minv, List.take_of_length_le (by omega), by omega, h3, Nat.le_refl _, .inl ⟨h2, fun _ => htl⟩⟩
  subst hp
  have he := G.vec.ez.resolve_left (by simp)
  subst he
  have okt : ∀ t ∈ l, OkT t := fun t ht => (okl t ht).ok
  obtain ⟨n, hn⟩ : ∃ n, 1 + i % 9 = n := ⟨_, rfl⟩
  rw [hn] at q8 hln w1
  subst hln
  simp -implicitDefEqProofs -dsimp (maxSteps := 10000000) only [af3_l2, ↓goes_loop, ↓goes_seq, ↓goes_reg, ↓goes_dreg, ↓goes_cond, ↓goes_block, ↓goes_skip, ↓goes_exit, ↓goes_ret, after_some, br_true, br_false, ↓then_normal, ↓then_exit, ↓then_ret, ↓blk_normal, ↓blk_exit, ↓blk_ret, ↓blk_other, ops_nil, ops_some, ops_none, oper_none, oper_some, gd_tt, gd_ff, gd_tf, gd_ft, gd_undef, ↓any_op, ↓any_call, ↓any_callV, ↓any_invoke, xo_t, xo_c, args_nil, args_cons, bin_add, bin_sub, bin_mul, bin_quo, bin_rem, bin_and, bin_or, bin_xor, bin_andNot, bin_eql, bin_neq, bin_lss, bin_leq, bin_gtr, bin_geq, bin_shl, bin_shr, bin_bools, bin_strs, bin_ptrs, bin_slices, bin_aggs, ↓Option.bind_some, ↓Option.map_some, ↓cond_true, ↓cond_false, evC, evOp, XO.lit, setArgs, Tr.get_set, Option.bind_some, Option.map_some, cond_true, cond_false, maxI, maxFrom, minI, minFrom, aConv, aBinE, aEq, eqScal, aUn, evRes, fin, oneOf, if_true, if_false, callee, reduceCtorEq, Nat.reduceEqDiff, and_self, decide_true, decide_false, beq_true, beq_false, Bool.not_true, Bool.not_false, List.getElem?_cons_zero, List.getElem?_cons_succ, beq_self_eq_true, gt_iff_lt, ble_dec, beq_dec, List.head?_cons, AV.undef, eq_self, ne_eq, not_true_eq_false, not_false_eq_true, Int.reduceLT, Int.reduceLE, Int.reduceToNat, Int.reduceEq, Int.reduceNeg, Nat.reduceAdd, Nat.reduceLT, Nat.reduceLeDiff, Nat.reduceMul, Nat.reduceSub, ↓evDraw_nil, bir, putD, evDraw, trace, List.all_cons, List.all_nil, chk, stAt, again, sameV, sameL, sameA, AV.undef, Bool.and_self, Bool.and_true, decide_eq_true_eq, List.getElem?_nil, AV.cells, AV.tup, Bool.true_and, true_and, and_true, List.drop_nil, List.append_nil, rd_put, rd_alloc, rdO, St.get_put, St.get_alloc, St.next_put, St.next_alloc, St.wr, Bool.and_self, Bool.and_true, List.length_cons, List.length_nil, List.take_succ_cons, List.take_zero, List.drop_succ_cons, List.drop_zero, List.cons_append, List.nil_append, Nat.zero_add, Nat.add_zero, Nat.reduceMul, t1, c1, q9, htm, w1, q8]
  refine .while (I3x o ver l i) id 6 ⟨?_, ?_, fk, 0, ?_, rfl⟩ (by show 6 < k + 1106; omega) fun mm TT SS hh => (round3x k (by omega) (by omega) okt mm TT SS hh).mono ?_
  rotate_right
  · intro r T1 U1 hq
    cases r with
    | normal => exact hq
    | ret => exact absurd hq.1 (by simp)
    | exit xx =>
      obtain ⟨hi, t1', _⟩ := hq
      cases hi
      simp -implicitDefEqProofs -dsimp (maxSteps := 10000000) only [↓goes_loop, ↓goes_seq, ↓goes_reg, ↓goes_dreg, ↓goes_cond, ↓goes_block, ↓goes_skip, ↓goes_exit, ↓goes_ret, after_some, br_true, br_false, ↓then_normal, ↓then_exit, ↓then_ret, ↓blk_normal, ↓blk_exit, ↓blk_ret, ↓blk_other, ops_nil, ops_some, ops_none, oper_none, oper_some, gd_tt, gd_ff, gd_tf, gd_ft, gd_undef, ↓any_op, ↓any_call, ↓any_callV, ↓any_invoke, xo_t, xo_c, args_nil, args_cons, bin_add, bin_sub, bin_mul, bin_quo, bin_rem, bin_and, bin_or, bin_xor, bin_andNot, bin_eql, bin_neq, bin_lss, bin_leq, bin_gtr, bin_geq, bin_shl, bin_shr, bin_bools, bin_strs, bin_ptrs, bin_slices, bin_aggs, ↓Option.bind_some, ↓Option.map_some, ↓cond_true, ↓cond_false, evC, evOp, XO.lit, setArgs, Tr.get_set, Option.bind_some, Option.map_some, cond_true, cond_false, maxI, maxFrom, minI, minFrom, aConv, aBinE, aEq, eqScal, aUn, evRes, fin, oneOf, if_true, if_false, callee, reduceCtorEq, Nat.reduceEqDiff, and_self, decide_true, decide_false, beq_true, beq_false, Bool.not_true, Bool.not_false, List.getElem?_cons_zero, List.getElem?_cons_succ, beq_self_eq_true, gt_iff_lt, ble_dec, beq_dec, List.head?_cons, AV.undef, eq_self, ne_eq, not_true_eq_false, not_false_eq_true, Int.reduceLT, Int.reduceLE, Int.reduceToNat, Int.reduceEq, Int.reduceNeg, Nat.reduceAdd, Nat.reduceLT, Nat.reduceLeDiff, Nat.reduceMul, Nat.reduceSub, ↓evDraw_nil, bir, putD, evDraw, trace, List.all_cons, List.all_nil, chk, stAt, again, sameV, sameL, sameA, AV.undef, Bool.and_self, Bool.and_true, decide_eq_true_eq, List.getElem?_nil, AV.cells, AV.tup, Bool.true_and, true_and, and_true, List.drop_nil, List.append_nil, rd_put, rd_alloc, rdO, St.get_put, St.get_alloc, St.next_put, St.next_alloc, St.wr, Bool.and_self, Bool.and_true, List.length_cons, List.length_nil, List.take_succ_cons, List.take_zero, List.drop_succ_cons, List.drop_zero, List.cons_append, List.nil_append, Nat.zero_add, Nat.add_zero, Nat.reduceMul, t1', wi]
      refine ⟨m - 1, ⟨i + 1, ?_, by omega⟩, by show m - 1 < m; omega⟩
      simp only [Tr.get_set, Nat.reduceEqDiff, if_false, if_true]
  all_goals simp only [Tr.get_set, Nat.reduceEqDiff, if_false, if_true, t1]
  all_goals rfl
def la : List Tp := [⟨1, 800, 10⟩, ⟨2, 1600, 20⟩, ⟨3, 2400, 30⟩]
def lb : List Tp := [⟨2, 800, 10⟩, ⟨1, 800, 10⟩, ⟨0, 800, 9⟩, ⟨3, 900, 10⟩]
def lc : List Tp := [⟨1, 800, 1⟩, ⟨2, 880, 11⟩, ⟨3, 960, 21⟩, ⟨4, 960, 31⟩]
def ld : List Tp := [⟨1, 18446744073709551615, 600⟩, ⟨2, 2199023255552, -5⟩, ⟨3, 0, 0⟩, ⟨4, 0, 511⟩]
def ld1 : List Tp := [⟨1, 18446744073709551615, 600⟩, ⟨2, 2199023255552, -5⟩]
def ld2 : List Tp := [⟨3, 0, 0⟩, ⟨4, 0, 511⟩]
def okTB (t : Tp) : Bool := decide (0 ≤ t.o) && decide (t.o ≤ 4294967295) && decide (0 ≤ t.r) && decide (t.r ≤ 18446744073709551615) && decide (-9223372036854775808 ≤ t.v) && decide (t.v ≤ 9223372036854775807)
theorem okTB_all {l : List Tp} (h : l.all okTB = true) : ∀ t ∈ l, OkT t := by
  intro t ht
  have := List.all_eq_true.1 h t ht
  simp only [okTB, Bool.and_eq_true, decide_eq_true_eq] at this
  exact ⟨this.1.1.1.1.1, this.1.1.1.1.2, this.1.1.1.2, this.1.1.2, this.1.2, this.2⟩
structure I3z (Sb : St) (oa ob oc od : Nat) (m : Nat) (T : Tm) (S : St) : Prop where
  t4 : T.get 4 = some (.slice (some (oa, 0, 0)) 3 3 none)
  t5 : T.get 5 = some (.slice (some (ob, 0, 0)) 4 3 none)
  t6 : T.get 6 = some (.slice (some (oc, 0, 0)) 4 3 none)
  t7 : T.get 7 = some (.slice (some (od, 0, 0)) 4 3 none)
  ext : Ext Sb S
  more : ∃ i : Nat, T.get 8 = some (.int .u64 i) ∧ i + m = 20
set_option maxHeartbeats 8000000 in
theorem round3z (k : Nat) {Sb : St} {oa ob oc od : Nat} (ha : Ty Sb (some (oa, 0, 0)) 3 la) (hb : Ty Sb (some (ob, 0, 0)) 3 lb) (hc : Ty Sb (some (oc, 0, 0)) 3 lc) (hd : Ty Sb (some (od, 0, 0)) 3 ld) (hd1 : Ty Sb (some (od, 0, 0)) 3 ld1) (hd2 : Ty Sb (some (od, 0, 6)) 3 ld2) (m : Nat) (T : Tm) (S : St) (hI : I3z Sb oa ob oc od m T S) :
    Goes (evF Y AP (k + 1106)) (k + 1106) af3_l0 T S (Then (fun T' S' => ∃ m', I3z Sb oa ob oc od m' T' S' ∧ id m' < id m) fun r T' S' => r = .exit 4 ∧ I3z Sb oa ob oc od 0 T' S') := by
  obtain ⟨t4, t5, t6, t7, ex, i, t8, hm⟩ := hI
  by_cases c1 : (i : Int) < 20
  rotate_left
  · obtain rfl : m = 0 := by omega
    simp -implicitDefEqProofs -dsimp (maxSteps := 10000000) only [af3_l0, ↓goes_loop, ↓goes_seq, ↓goes_reg, ↓goes_dreg, ↓goes_cond, ↓goes_block, ↓goes_skip, ↓goes_exit, ↓goes_ret, after_some, br_true, br_false, ↓then_normal, ↓then_exit, ↓then_ret, ↓blk_normal, ↓blk_exit, ↓blk_ret, ↓blk_other, ops_nil, ops_some, ops_none, oper_none, oper_some, gd_tt, gd_ff, gd_tf, gd_ft, gd_undef, ↓any_op, ↓any_call, ↓any_callV, ↓any_invoke, xo_t, xo_c, args_nil, args_cons, bin_add, bin_sub, bin_mul, bin_quo, bin_rem, bin_and, bin_or, bin_xor, bin_andNot, bin_eql, bin_neq, bin_lss, bin_leq, bin_gtr, bin_geq, bin_shl, bin_shr, bin_bools, bin_strs, bin_ptrs, bin_slices, bin_aggs, ↓Option.bind_some, ↓Option.map_some, ↓cond_true, ↓cond_false, evC, evOp, XO.lit, setArgs, Tr.get_set, Option.bind_some, Option.map_some, cond_true, cond_false, maxI, maxFrom, minI, minFrom, aConv, aBinE, aEq, eqScal, aUn, evRes, fin, oneOf, if_true, if_false, callee, reduceCtorEq, Nat.reduceEqDiff, and_self, decide_true, decide_false, beq_true, beq_false, Bool.not_true, Bool.not_false, List.getElem?_cons_zero, List.getElem?_cons_succ, beq_self_eq_true, gt_iff_lt, ble_dec, beq_dec, List.head?_cons, AV.undef, eq_self, ne_eq, not_true_eq_false, not_false_eq_true, Int.reduceLT, Int.reduceLE, Int.reduceToNat, Int.reduceEq, Int.reduceNeg, Nat.reduceAdd, Nat.reduceLT, Nat.reduceLeDiff, Nat.reduceMul, Nat.reduceSub, AV.cells, AV.tup, Bool.true_and, true_and, and_true, List.drop_nil, List.append_nil, rd_put, rd_alloc, rdO, St.get_put, St.get_alloc, St.next_put, St.next_alloc, St.wr, Bool.and_self, Bool.and_true, List.length_cons, List.length_nil, List.take_succ_cons, List.take_zero, List.drop_succ_cons, List.drop_zero, List.cons_append, List.nil_append, Nat.zero_add, Nat.add_zero, Nat.reduceMul, t8, c1]
    refine ⟨?_, ?_, ?_, ?_, ex, i, ?_, hm⟩ <;> simp only [Tr.get_set, Nat.reduceEqDiff, if_false, if_true, t4, t5, t6, t7, t8]
  have i0 : (0 : Int) ≤ (i : Int) := by omega
  have wi : IntKind.u64.wrap ((i : Int) + 1) = ((i + 1 : Nat) : Int) := by rw [u64_id (by omega) (by omega)]; omega
  obtain ⟨S1, q1, x1⟩ := T10 k (c := none) (ha.ext ex) (by decide) (okTB_all (by decide)) i0
  have q1 : evF Y AP (k + 1106) 10 [.slice (some (oa, 0, 0)) 3 3 none, .int .u64 i] S = _ := q1
  have e1 := ex.trans x1
  obtain ⟨S2, q2, x2⟩ := T10 k (c := none) (hb.ext e1) (by decide) (okTB_all (by decide)) i0
  have q2 : evF Y AP (k + 1106) 10 [.slice (some (ob, 0, 0)) 4 3 none, .int .u64 i] S1 = _ := q2
  have e2 := e1.trans x2
  obtain ⟨S3, q3, x3⟩ := T10 k (c := none) (hc.ext e2) (by decide) (okTB_all (by decide)) i0
  have q3 : evF Y AP (k + 1106) 10 [.slice (some (oc, 0, 0)) 4 3 none, .int .u64 i] S2 = _ := q3
  have e3 := e2.trans x3
  obtain ⟨S4, q4, x4⟩ := T10 k (c := none) (hd.ext e3) (by decide) (okTB_all (by decide)) i0
  have q4 : evF Y AP (k + 1106) 10 [.slice (some (od, 0, 0)) 4 3 none, .int .u64 i] S3 = _ := q4
  have e4 := e3.trans x4
  obtain ⟨y, hy⟩ : ∃ y, IntKind.u64.wrap ((i : Int) * 2 ^ min 60 IntKind.u64.bits) = y := ⟨_, rfl⟩
  have y0 : 0 ≤ y := by rw [← hy, wrap_u64]; omega
  obtain ⟨S5, q5, x5⟩ := T10 k (c := none) (hd1.ext e4) (by decide) (okTB_all (by decide)) y0
  have q5 : evF Y AP (k + 1106) 10 [.slice (some (od, 0, 0)) 2 3 none, .int .u64 y] S4 = _ := q5
  have e5 := e4.trans x5
  obtain ⟨S6, q6, x6⟩ := T10 k (c := none) (hd2.ext e5) (by decide) (okTB_all (by decide)) i0
  have q6 : evF Y AP (k + 1106) 10 [.slice (some (od, 0, 6)) 2 3 none, .int .u64 i] S5 = _ := q6
  have cut1 : aCut 3 (.slice (some (od, 0, 0)) 4 3 none) none (some (.int .i64 2)) none = some (.slice (some (od, 0, 0)) 2 3 none) := rfl
  have cut2 : aCut 3 (.slice (some (od, 0, 0)) 4 3 none) (some (.int .i64 2)) none none = some (.slice (some (od, 0, 6)) 2 3 none) := rfl
  simp -implicitDefEqProofs -dsimp (maxSteps := 10000000) only [af3_l0, ↓goes_loop, ↓goes_seq, ↓goes_reg, ↓goes_dreg, ↓goes_cond, ↓goes_block, ↓goes_skip, ↓goes_exit, ↓goes_ret, after_some, br_true, br_false, ↓then_normal, ↓then_exit, ↓then_ret, ↓blk_normal, ↓blk_exit, ↓blk_ret, ↓blk_other, ops_nil, ops_some, ops_none, oper_none, oper_some, gd_tt, gd_ff, gd_tf, gd_ft, gd_undef, ↓any_op, ↓any_call, ↓any_callV, ↓any_invoke, xo_t, xo_c, args_nil, args_cons, bin_add, bin_sub, bin_mul, bin_quo, bin_rem, bin_and, bin_or, bin_xor, bin_andNot, bin_eql, bin_neq, bin_lss, bin_leq, bin_gtr, bin_geq, bin_shl, bin_shr, bin_bools, bin_strs, bin_ptrs, bin_slices, bin_aggs, ↓Option.bind_some, ↓Option.map_some, ↓cond_true, ↓cond_false, evC, evOp, XO.lit, setArgs, Tr.get_set, Option.bind_some, Option.map_some, cond_true, cond_false, maxI, maxFrom, minI, minFrom, aConv, aBinE, aEq, eqScal, aUn, evRes, fin, oneOf, if_true, if_false, callee, reduceCtorEq, Nat.reduceEqDiff, and_self, decide_true, decide_false, beq_true, beq_false, Bool.not_true, Bool.not_false, List.getElem?_cons_zero, List.getElem?_cons_succ, beq_self_eq_true, gt_iff_lt, ble_dec, beq_dec, List.head?_cons, AV.undef, eq_self, ne_eq, not_true_eq_false, not_false_eq_true, Int.reduceLT, Int.reduceLE, Int.reduceToNat, Int.reduceEq, Int.reduceNeg, Nat.reduceAdd, Nat.reduceLT, Nat.reduceLeDiff, Nat.reduceMul, Nat.reduceSub, ↓evDraw_nil, bir, putD, evDraw, trace, List.all_cons, List.all_nil, chk, stAt, again, sameV, sameL, sameA, AV.undef, Bool.and_self, Bool.and_true, decide_eq_true_eq, List.getElem?_nil, AV.cells, AV.tup, Bool.true_and, true_and, and_true, List.drop_nil, List.append_nil, rd_put, rd_alloc, rdO, St.get_put, St.get_alloc, St.next_put, St.next_alloc, St.wr, Bool.and_self, Bool.and_true, List.length_cons, List.length_nil, List.take_succ_cons, List.take_zero, List.drop_succ_cons, List.drop_zero, List.cons_append, List.nil_append, Nat.zero_add, Nat.add_zero, Nat.reduceMul, evOpt, t4, t5, t6, t7, t8, c1, q1, q2, q3, q4, cut1, cut2, hy, q5, q6, wi]

  refine ⟨m - 1, ⟨?_, ?_, ?_, ?_, e5.trans x6, i + 1, ?_, by omega⟩, by show m - 1 < m; omega⟩ <;> simp only [Tr.get_set, Nat.reduceEqDiff, if_false, if_true, t4, t5, t6, t7]
set_option maxHeartbeats 16000000 in
theorem ev3 (k : Nat) (S : St) : ∃ S', evF Y AP (k + 1107) 3 [] S = some (.bool true, S') := by
  suffices hh : ∃ w S', evF Y AP (k + 1107) 3 [] S = some (w, S') ∧ w = .bool true by
    obtain ⟨w, S', h1, rfl⟩ := hh; exact ⟨S', h1⟩
  refine evF_goes (af := af3) (k := k + 1106) rfl rfl rfl ?_
  simp -implicitDefEqProofs -dsimp (maxSteps := 10000000) only [af3, ↓goes_loop, ↓goes_seq, ↓goes_reg, ↓goes_dreg, ↓goes_cond, ↓goes_block, ↓goes_skip, ↓goes_exit, ↓goes_ret, after_some, br_true, br_false, ↓then_normal, ↓then_exit, ↓then_ret, ↓blk_normal, ↓blk_exit, ↓blk_ret, ↓blk_other, ops_nil, ops_some, ops_none, oper_none, oper_some, gd_tt, gd_ff, gd_tf, gd_ft, gd_undef, ↓any_op, ↓any_call, ↓any_callV, ↓any_invoke, xo_t, xo_c, args_nil, args_cons, bin_add, bin_sub, bin_mul, bin_quo, bin_rem, bin_and, bin_or, bin_xor, bin_andNot, bin_eql, bin_neq, bin_lss, bin_leq, bin_gtr, bin_geq, bin_shl, bin_shr, bin_bools, bin_strs, bin_ptrs, bin_slices, bin_aggs, ↓Option.bind_some, ↓Option.map_some, ↓cond_true, ↓cond_false, evC, evOp, XO.lit, setArgs, Tr.tabG, Tr.tabS, Tr.tabL, Tr.get_lf, Option.bind_some, Option.map_some, cond_true, cond_false, maxI, maxFrom, minI, minFrom, aConv, aBinE, aEq, eqScal, aUn, evRes, fin, oneOf, if_true, if_false, callee, reduceCtorEq, Nat.reduceEqDiff, and_self, decide_true, decide_false, beq_true, beq_false, Bool.not_true, Bool.not_false, List.getElem?_cons_zero, List.getElem?_cons_succ, beq_self_eq_true, gt_iff_lt, ble_dec, beq_dec, List.head?_cons, AV.undef, eq_self, ne_eq, not_true_eq_false, not_false_eq_true, Int.reduceLT, Int.reduceLE, Int.reduceToNat, Int.reduceEq, Int.reduceNeg, Nat.reduceAdd, Nat.reduceLT, Nat.reduceLeDiff, Nat.reduceMul, Nat.reduceSub, ↓evDraw_nil, bir, putD, evDraw, trace, List.all_cons, List.all_nil, chk, stAt, again, sameV, sameL, sameA, AV.undef, Bool.and_self, Bool.and_true, decide_eq_true_eq, List.getElem?_nil, AV.cells, AV.tup, Bool.true_and, true_and, and_true, List.drop_nil, List.append_nil, rd_put, rd_alloc, rdO, St.get_put, St.get_alloc, St.next_put, St.next_alloc, St.wr, Bool.and_self, Bool.and_true, List.length_cons, List.length_nil, List.take_succ_cons, List.take_zero, List.drop_succ_cons, List.drop_zero, List.cons_append, List.nil_append, Nat.zero_add, Nat.add_zero, Nat.reduceMul, aFill, evParts, rep, List.replicate_succ, List.replicate_zero, List.flatten_cons, List.flatten_nil, List.append_nil, newSl, newVar]
  refine .while I3y id 60 ⟨0, rfl, rfl⟩ (by show 60 < k + 1106; omega) fun mm TT SS hh => (round3y k mm TT SS hh).mono ?_
  intro r T1 U1 hq
  cases r with
  | normal => exact hq
  | ret => exact absurd hq.1 (by simp)
  | exit xx =>
    obtain ⟨hi, _⟩ := hq
    cases hi
    obtain ⟨A1, hA1⟩ : ∃ A, U1.alloc (.cells (tcs la) 0 0 true) = A := ⟨_, rfl⟩
    obtain ⟨A2, hA2⟩ : ∃ A, A1.alloc (.cells (tcs lb) 0 0 true) = A := ⟨_, rfl⟩
    obtain ⟨A3, hA3⟩ : ∃ A, A2.alloc (.cells (tcs lc) 0 0 true) = A := ⟨_, rfl⟩
    obtain ⟨A4, hA4⟩ : ∃ A, A3.alloc (.cells (tcs ld) 0 0 true) = A := ⟨_, rfl⟩
    have g1 : A1.get U1.next = some (.cells (tcs la) 0 0 true) := by rw [← hA1, St.get_alloc, if_pos rfl]
    have g2 : A2.get A1.next = some (.cells (tcs lb) 0 0 true) := by rw [← hA2, St.get_alloc, if_pos rfl]
    have g3 : A3.get A2.next = some (.cells (tcs lc) 0 0 true) := by rw [← hA3, St.get_alloc, if_pos rfl]
    have g4 : A4.get A3.next = some (.cells (tcs ld) 0 0 true) := by rw [← hA4, St.get_alloc, if_pos rfl]
    have n1 : A1.next = U1.next + 1 := by rw [← hA1]; rfl
    have n2 : A2.next = A1.next + 1 := by rw [← hA2]; rfl
    have n3 : A3.next = A2.next + 1 := by rw [← hA3]; rfl
    have n4 : A4.next = A3.next + 1 := by rw [← hA4]; rfl
    have x2 : Ext A1 A2 := by rw [← hA2]; exact .alloc _ _
    have x3 : Ext A2 A3 := by rw [← hA3]; exact .alloc _ _
    have x4 : Ext A3 A4 := by rw [← hA4]; exact .alloc _ _
    have ty : ∀ {o i : Nat} {c : List AV} (l : List Tp), A4.get o = some (.cells c 0 0 true) → o < A4.next → rdO (.cells c 0 0 true) 0 i (l.length * 3) = some (tcs l) → l.length ≤ 1000 → Ty A4 (some (o, 0, i)) 3 l := by
      intro o i c l hg ho hr hl
      refine ⟨.inr rfl, fun h => (by cases h), fun o' v' i' hp => ?_, by omega⟩
      cases hp
      exact ⟨ho, by rw [rd_of hg]; exact hr⟩
    have ha := ty la (((x2.trans x3).trans x4).get (by omega) g1) (by omega) (i := 0) rfl (by decide)
    have hb := ty lb ((x3.trans x4).get (by omega) g2) (by omega) (i := 0) rfl (by decide)
    have hc := ty lc (x4.get (by omega) g3) (by omega) (i := 0) rfl (by decide)
    have hd := ty ld g4 (by omega) (i := 0) rfl (by decide)
    have hd1 := ty ld1 g4 (by omega) (i := 0) rfl (by decide)
    have hd2 := ty ld2 g4 (by omega) (i := 6) rfl (by decide)
    have hA1 : U1.alloc (.cells [.int .u32 1, .int .u64 800, .int .i64 10, .int .u32 2, .int .u64 1600, .int .i64 20, .int .u32 3, .int .u64 2400, .int .i64 30] 0 0 true) = A1 := hA1
    have hA2 : A1.alloc (.cells [.int .u32 2, .int .u64 800, .int .i64 10, .int .u32 1, .int .u64 800, .int .i64 10, .int .u32 0, .int .u64 800, .int .i64 9, .int .u32 3, .int .u64 900, .int .i64 10] 0 0 true) = A2 := hA2
    have hA3 : A2.alloc (.cells [.int .u32 1, .int .u64 800, .int .i64 1, .int .u32 2, .int .u64 880, .int .i64 11, .int .u32 3, .int .u64 960, .int .i64 21, .int .u32 4, .int .u64 960, .int .i64 31] 0 0 true) = A3 := hA3
    have hA4 : A3.alloc (.cells [.int .u32 1, .int .u64 18446744073709551615, .int .i64 600, .int .u32 2, .int .u64 2199023255552, .int .i64 (-5), .int .u32 3, .int .u64 0, .int .i64 0, .int .u32 4, .int .u64 0, .int .i64 511] 0 0 true) = A4 := hA4
    simp -implicitDefEqProofs -dsimp (maxSteps := 10000000) only [↓goes_loop, ↓goes_seq, ↓goes_reg, ↓goes_dreg, ↓goes_cond, ↓goes_block, ↓goes_skip, ↓goes_exit, ↓goes_ret, after_some, br_true, br_false, ↓then_normal, ↓then_exit, ↓then_ret, ↓blk_normal, ↓blk_exit, ↓blk_ret, ↓blk_other, ops_nil, ops_some, ops_none, oper_none, oper_some, gd_tt, gd_ff, gd_tf, gd_ft, gd_undef, ↓any_op, ↓any_call, ↓any_callV, ↓any_invoke, xo_t, xo_c, args_nil, args_cons, bin_add, bin_sub, bin_mul, bin_quo, bin_rem, bin_and, bin_or, bin_xor, bin_andNot, bin_eql, bin_neq, bin_lss, bin_leq, bin_gtr, bin_geq, bin_shl, bin_shr, bin_bools, bin_strs, bin_ptrs, bin_slices, bin_aggs, ↓Option.bind_some, ↓Option.map_some, ↓cond_true, ↓cond_false, evC, evOp, XO.lit, setArgs, Tr.get_set, Option.bind_some, Option.map_some, cond_true, cond_false, maxI, maxFrom, minI, minFrom, aConv, aBinE, aEq, eqScal, aUn, evRes, fin, oneOf, if_true, if_false, callee, reduceCtorEq, Nat.reduceEqDiff, and_self, decide_true, decide_false, beq_true, beq_false, Bool.not_true, Bool.not_false, List.getElem?_cons_zero, List.getElem?_cons_succ, beq_self_eq_true, gt_iff_lt, ble_dec, beq_dec, List.head?_cons, AV.undef, eq_self, ne_eq, not_true_eq_false, not_false_eq_true, Int.reduceLT, Int.reduceLE, Int.reduceToNat, Int.reduceEq, Int.reduceNeg, Nat.reduceAdd, Nat.reduceLT, Nat.reduceLeDiff, Nat.reduceMul, Nat.reduceSub, ↓evDraw_nil, bir, putD, evDraw, trace, List.all_cons, List.all_nil, chk, stAt, again, sameV, sameL, sameA, AV.undef, Bool.and_self, Bool.and_true, decide_eq_true_eq, List.getElem?_nil, AV.cells, AV.tup, Bool.true_and, true_and, and_true, List.drop_nil, List.append_nil, rd_put, rd_alloc, rdO, St.get_put, St.get_alloc, St.next_put, St.next_alloc, St.wr, Bool.and_self, Bool.and_true, List.length_cons, List.length_nil, List.take_succ_cons, List.take_zero, List.drop_succ_cons, List.drop_zero, List.cons_append, List.nil_append, Nat.zero_add, Nat.add_zero, Nat.reduceMul, aFill, evParts, rep, List.replicate_succ, List.replicate_zero, List.flatten_cons, List.flatten_nil, List.append_nil, newSl, newVar, hA1, hA2, hA3, hA4]
    refine .while (I3z A4 U1.next A1.next A2.next A3.next) id 20 ⟨?_, ?_, ?_, ?_, .refl A4, 0, ?_, rfl⟩ (by show 20 < k + 1106; omega) fun mm TT SS hh => (round3z k ha hb hc hd hd1 hd2 mm TT SS hh).mono ?_
    rotate_right
    · intro r T2 U2 hq
      cases r with
      | normal => exact hq
      | ret => exact absurd hq.1 (by simp)
      | exit xx =>
        obtain ⟨hi, _⟩ := hq
        cases hi
        obtain ⟨S5, q5, _⟩ := T10 k (c := none) (Ty.zero U2 0) (by decide) (fun t ht => (by cases ht)) (n := 18446744073709551615) (by decide)
        have q5 : evF Y AP (k + 1106) 10 [.slice none 0 0 none, .int .u64 18446744073709551615] U2 = _ := q5
        have q11 : evF Y AP (k + 1106) 11 [] S5 = _ := y11 (k + 1105) S5
        simp -implicitDefEqProofs -dsimp (maxSteps := 10000000) only [↓goes_loop, ↓goes_seq, ↓goes_reg, ↓goes_dreg, ↓goes_cond, ↓goes_block, ↓goes_skip, ↓goes_exit, ↓goes_ret, after_some, br_true, br_false, ↓then_normal, ↓then_exit, ↓then_ret, ↓blk_normal, ↓blk_exit, ↓blk_ret, ↓blk_other, ops_nil, ops_some, ops_none, oper_none, oper_some, gd_tt, gd_ff, gd_tf, gd_ft, gd_undef, ↓any_op, ↓any_call, ↓any_callV, ↓any_invoke, xo_t, xo_c, args_nil, args_cons, bin_add, bin_sub, bin_mul, bin_quo, bin_rem, bin_and, bin_or, bin_xor, bin_andNot, bin_eql, bin_neq, bin_lss, bin_leq, bin_gtr, bin_geq, bin_shl, bin_shr, bin_bools, bin_strs, bin_ptrs, bin_slices, bin_aggs, ↓Option.bind_some, ↓Option.map_some, ↓cond_true, ↓cond_false, evC, evOp, XO.lit, setArgs, Tr.get_set, Option.bind_some, Option.map_some, cond_true, cond_false, maxI, maxFrom, minI, minFrom, aConv, aBinE, aEq, eqScal, aUn, evRes, fin, oneOf, if_true, if_false, callee, reduceCtorEq, Nat.reduceEqDiff, and_self, decide_true, decide_false, beq_true, beq_false, Bool.not_true, Bool.not_false, List.getElem?_cons_zero, List.getElem?_cons_succ, beq_self_eq_true, gt_iff_lt, ble_dec, beq_dec, List.head?_cons, AV.undef, eq_self, ne_eq, not_true_eq_false, not_false_eq_true, Int.reduceLT, Int.reduceLE, Int.reduceToNat, Int.reduceEq, Int.reduceNeg, Nat.reduceAdd, Nat.reduceLT, Nat.reduceLeDiff, Nat.reduceMul, Nat.reduceSub, ↓evDraw_nil, bir, putD, evDraw, trace, List.all_cons, List.all_nil, chk, stAt, again, sameV, sameL, sameA, AV.undef, Bool.and_self, Bool.and_true, decide_eq_true_eq, List.getElem?_nil, AV.cells, AV.tup, Bool.true_and, true_and, and_true, List.drop_nil, List.append_nil, rd_put, rd_alloc, rdO, St.get_put, St.get_alloc, St.next_put, St.next_alloc, St.wr, Bool.and_self, Bool.and_true, List.length_cons, List.length_nil, List.take_succ_cons, List.take_zero, List.drop_succ_cons, List.drop_zero, List.cons_append, List.nil_append, Nat.zero_add, Nat.add_zero, Nat.reduceMul, q5, q11]
        exact ⟨_, _, rfl, rfl⟩
    all_goals simp only [Tr.get_set, Nat.reduceEqDiff, if_false, if_true]
    all_goals rfl
theorem law3 : ∃ S', evF Y AP 1107 3 [] S0 = some (.bool true, S') := ev3 0 S0
end Go.Proofs.YtkbooepiomobdaaA
