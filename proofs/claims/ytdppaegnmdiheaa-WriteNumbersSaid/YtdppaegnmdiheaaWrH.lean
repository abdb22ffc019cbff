/- Chapter 21: the round of play. -/
import Derived.Test.YtdppaegnmdiheaaWrG
set_option linter.unusedVariables false
set_option linter.unusedSimpArgs false
set_option maxRecDepth 10000
namespace Go.Proofs.YtdppaegnmdiheaaA
open Go.RowKit
attribute [local congr] bind_congr1 map_congr1 cond_congr1 withX_congr after_congr br_congr gd_congr

structure Aq (S : St) (p : Option (Nat × Nat × Nat)) (len : Nat) : Prop where
  at_ : len ≠ 0 → ∃ o v i, p = some (o, v, i) ∧ o < S.next
  max : len ≤ 9223372036854775807
  el : ∀ o v i, p = some (o, v, i) → ∀ j, j < len → j < 120 → ∃ (a b c d : Int) (e : Bool), S.rd o v (i + j * 5) 5 = some [.int .i64 a, .int .i64 b, .int .i64 c, .int .u32 d, .bool e] ∧ c ≤ 140737488355328 ∧ 0 ≤ d ∧ d < 4294967296
theorem Aq.ext {S S' : St} {p : Option (Nat × Nat × Nat)} {len : Nat} (h : Aq S p len) (x : Ext S S') : Aq S' p len := by
  refine ⟨fun h0 => ?_, h.max, fun o v i hp j hj h1 => ?_⟩
  · obtain ⟨o, v, i, hp, ho⟩ := h.at_ h0
    exact ⟨o, v, i, hp, Nat.lt_of_lt_of_le ho x.next⟩
  · obtain ⟨o', v', i', hp', ho⟩ := h.at_ (by omega)
    rw [hp] at hp'
    cases hp'
    rw [x.rd ho]
    exact h.el o v i hp j hj h1
theorem pkW_l {x x' : Wr} {L E tm : Int} {K : Bool} (h : pkW x L E K tm = some x') : x'.l = L ∧ 0 ≤ L := by
  unfold pkW at h
  split at h
  · cases h
  · split at h
    · split at h
      · cases h
      · rename_i c _; cases h; exact ⟨c.symm, by omega⟩
    · split at h
      · cases h; exact ⟨rfl, by omega⟩
      · cases h
structure I16 (p : Option (Nat × Nat × Nat)) (len e o : Nat) (Sb : St) (m : Nat) (T : Tm) (S : St) : Prop where
  t1 : T.get 1 = some (.slice p len e none)
  t5 : T.get 5 = some (pt o)
  t6 : T.get 6 = some (pr (o + 1))
  ext : Ext Sb S
  lt : o + 1 < S.next
  more : ∃ (x : Wr) (r : Rf) (j : Nat), T.get 7 = some (.int .i64 j) ∧ S.get o = some (wr x) ∧ S.get (o + 1) = some (rf r) ∧ RL j x r ∧ j ≤ 120 ∧ j + m = 120
section
variable {S : St} {o : Nat} {x : Wr} {r : Rf} (k : Nat)
theorem T28 {j : Int} (hw : S.get o = some (wr x)) (hr : S.get (o + 1) = some (rf r)) (h : RL j x r) : evF Y AP (k + 8) 28 [pt o, pr (o + 1)] S = some (.bool true, S) := by
  have a1 := T10 (k + 3) hw
  have a2 := T15 (k + 3) hw
  have a3 := T22 (k + 3) hw
  have a4 := T13 (k + 3) hw
  have a1 : evF Y AP (k + 7) 10 [pt o] S = _ := a1
  have a2 : evF Y AP (k + 7) 15 [pt o] S = _ := a2
  have a3 : evF Y AP (k + 7) 22 [pt o] S = _ := a3
  have a4 : evF Y AP (k + 7) 13 [pt o] S = _ := a4
  have hrd : ∀ v i m, S.rd (o + 1) v i m = rdO (rf r) v i m := rd_of hr
  obtain ⟨s, l, w, c, n', _⟩ := h
  rw [evF_body (af := af28) rfl rfl rfl]
  simp -implicitDefEqProofs -dsimp (maxSteps := 10000000) only [af28, ops_nil, ops_some, ops_none, oper_none, oper_some, gd_tt, gd_ff, gd_tf, gd_ft, gd_undef, ↓any_op, ↓any_call, ↓any_callV, ↓any_invoke, xo_t, xo_c, args_nil, args_cons, bin_add, bin_sub, bin_mul, bin_quo, bin_rem, bin_and, bin_or, bin_xor, bin_andNot, bin_eql, bin_neq, bin_lss, bin_leq, bin_gtr, bin_geq, bin_shl, bin_shr, bin_bools, bin_strs, bin_ptrs, bin_slices, bin_aggs, ↓Option.bind_some, ↓Option.map_some, ↓cond_true, ↓cond_false, evC, evOp, XO.lit, setArgs, Tr.tabG, Tr.tabS, Tr.tabL, Tr.get_lf, Option.bind_some, Option.map_some, cond_true, cond_false, maxI, maxFrom, minI, minFrom, aConv, aBinE, aEq, eqScal, aUn, evRes, fin, oneOf, if_true, if_false, callee, reduceCtorEq, Nat.reduceEqDiff, and_self, decide_true, decide_false, beq_true, beq_false, Bool.not_true, Bool.not_false, List.getElem?_cons_zero, List.getElem?_cons_succ, beq_self_eq_true, gt_iff_lt, ble_dec, beq_dec, List.head?_cons, AV.undef, eq_self, ne_eq, not_true_eq_false, not_false_eq_true, Int.reduceLT, Int.reduceLE, Int.reduceToNat, Int.reduceEq, Int.reduceNeg, Nat.reduceAdd, Nat.reduceLT, Nat.reduceLeDiff, Nat.reduceMul, Nat.reduceSub, ↓evDraw_nil, putD, evDraw, trace, List.all_cons, List.all_nil, chk, stAt, again, sameV, sameA, AV.undef, Bool.and_self, Bool.and_true, decide_eq_true_eq, List.getElem?_nil, AV.cells, AV.tup, Bool.true_and, true_and, and_true, List.drop_nil, List.append_nil, rd_put, rd_alloc, rdO, St.get_put, St.get_alloc, St.next_put, St.next_alloc, St.wr, Bool.and_self, Bool.and_true, List.length_cons, List.length_nil, List.take_succ_cons, List.take_zero, List.drop_succ_cons, List.drop_zero, List.cons_append, List.nil_append, Nat.zero_add, Nat.add_zero, Nat.reduceMul, aFill, evParts, rep, List.replicate_succ, List.replicate_zero, List.flatten_cons, List.flatten_nil, List.append_nil, newSl, newVar, hrd, rf, a1, a2, a3, a4, l, w, c, n']
end
set_option maxHeartbeats 16000000 in
theorem round16 (k : Nat) {p : Option (Nat × Nat × Nat)} {len e o : Nat} {Sb : St} (ez : p = none ∨ e = 5) (h1 : Aq Sb p len) (ho : Sb.next ≤ o) (m : Nat) (T : Tm) (S : St) (hI : I16 p len e o Sb m T S) :
    Goes (evF Y AP (k + 199)) (k + 199) af16_l0 T S (Then (fun T' S' => ∃ m', I16 p len e o Sb m' T' S' ∧ id m' < id m) fun r T' S' => r = .exit 0 ∧ ∃ m', I16 p len e o Sb m' T' S') := by
  have hm1 := h1.max
  obtain ⟨t1, t5, t6, he, lt, x, r, j, t7, gw, gr, R, j1, hm⟩ := hI
  by_cases c1 : (j : Int) < len
  rotate_left
  · simp -implicitDefEqProofs -dsimp (maxSteps := 10000000) only [af16_l0, ↓goes_loop, ↓goes_seq, ↓goes_reg, ↓goes_dreg, ↓goes_cond, ↓goes_block, ↓goes_skip, ↓goes_exit, ↓goes_ret, after_some, br_true, br_false, ↓then_normal, ↓then_exit, ↓then_ret, ↓blk_normal, ↓blk_exit, ↓blk_ret, ↓blk_other, ops_nil, ops_some, ops_none, oper_none, oper_some, gd_tt, gd_ff, gd_tf, gd_ft, gd_undef, ↓any_op, ↓any_call, ↓any_callV, ↓any_invoke, xo_t, xo_c, args_nil, args_cons, bin_add, bin_sub, bin_mul, bin_quo, bin_rem, bin_and, bin_or, bin_xor, bin_andNot, bin_eql, bin_neq, bin_lss, bin_leq, bin_gtr, bin_geq, bin_shl, bin_shr, bin_bools, bin_strs, bin_ptrs, bin_slices, bin_aggs, ↓Option.bind_some, ↓Option.map_some, ↓cond_true, ↓cond_false, evC, evOp, XO.lit, setArgs, Tr.get_set, Option.bind_some, Option.map_some, cond_true, cond_false, maxI, maxFrom, minI, minFrom, aConv, aBinE, aEq, eqScal, aUn, evRes, fin, oneOf, if_true, if_false, callee, reduceCtorEq, Nat.reduceEqDiff, and_self, decide_true, decide_false, beq_true, beq_false, Bool.not_true, Bool.not_false, List.getElem?_cons_zero, List.getElem?_cons_succ, beq_self_eq_true, gt_iff_lt, ble_dec, beq_dec, List.head?_cons, AV.undef, eq_self, ne_eq, not_true_eq_false, not_false_eq_true, Int.reduceLT, Int.reduceLE, Int.reduceToNat, Int.reduceEq, Int.reduceNeg, Nat.reduceAdd, Nat.reduceLT, Nat.reduceLeDiff, Nat.reduceMul, Nat.reduceSub, AV.cells, AV.tup, Bool.true_and, true_and, and_true, List.drop_nil, List.append_nil, rd_put, rd_alloc, rdO, St.get_put, St.get_alloc, St.next_put, St.next_alloc, St.wr, Bool.and_self, Bool.and_true, List.length_cons, List.length_nil, List.take_succ_cons, List.take_zero, List.drop_succ_cons, List.drop_zero, List.cons_append, List.nil_append, Nat.zero_add, Nat.add_zero, Nat.reduceMul, t1, t7, c1, hm1]
    refine ⟨m, ?_, ?_, ?_, he, lt, x, r, j, ?_, gw, gr, R, j1, hm⟩ <;> simp only [Tr.get_set, Nat.reduceEqDiff, if_false, if_true, t1, t5, t6, t7]
  by_cases c2 : (j : Int) < 120
  rotate_left
  · simp -implicitDefEqProofs -dsimp (maxSteps := 10000000) only [af16_l0, ↓goes_loop, ↓goes_seq, ↓goes_reg, ↓goes_dreg, ↓goes_cond, ↓goes_block, ↓goes_skip, ↓goes_exit, ↓goes_ret, after_some, br_true, br_false, ↓then_normal, ↓then_exit, ↓then_ret, ↓blk_normal, ↓blk_exit, ↓blk_ret, ↓blk_other, ops_nil, ops_some, ops_none, oper_none, oper_some, gd_tt, gd_ff, gd_tf, gd_ft, gd_undef, ↓any_op, ↓any_call, ↓any_callV, ↓any_invoke, xo_t, xo_c, args_nil, args_cons, bin_add, bin_sub, bin_mul, bin_quo, bin_rem, bin_and, bin_or, bin_xor, bin_andNot, bin_eql, bin_neq, bin_lss, bin_leq, bin_gtr, bin_geq, bin_shl, bin_shr, bin_bools, bin_strs, bin_ptrs, bin_slices, bin_aggs, ↓Option.bind_some, ↓Option.map_some, ↓cond_true, ↓cond_false, evC, evOp, XO.lit, setArgs, Tr.get_set, Option.bind_some, Option.map_some, cond_true, cond_false, maxI, maxFrom, minI, minFrom, aConv, aBinE, aEq, eqScal, aUn, evRes, fin, oneOf, if_true, if_false, callee, reduceCtorEq, Nat.reduceEqDiff, and_self, decide_true, decide_false, beq_true, beq_false, Bool.not_true, Bool.not_false, List.getElem?_cons_zero, List.getElem?_cons_succ, beq_self_eq_true, gt_iff_lt, ble_dec, beq_dec, List.head?_cons, AV.undef, eq_self, ne_eq, not_true_eq_false, not_false_eq_true, Int.reduceLT, Int.reduceLE, Int.reduceToNat, Int.reduceEq, Int.reduceNeg, Nat.reduceAdd, Nat.reduceLT, Nat.reduceLeDiff, Nat.reduceMul, Nat.reduceSub, AV.cells, AV.tup, Bool.true_and, true_and, and_true, List.drop_nil, List.append_nil, rd_put, rd_alloc, rdO, St.get_put, St.get_alloc, St.next_put, St.next_alloc, St.wr, Bool.and_self, Bool.and_true, List.length_cons, List.length_nil, List.take_succ_cons, List.take_zero, List.drop_succ_cons, List.drop_zero, List.cons_append, List.nil_append, Nat.zero_add, Nat.add_zero, Nat.reduceMul, t1, t7, c1, c2, hm1]
    refine ⟨m, ?_, ?_, ?_, he, lt, x, r, j, ?_, gw, gr, R, j1, hm⟩ <;> simp only [Tr.get_set, Nat.reduceEqDiff, if_false, if_true, t1, t5, t6, t7]
  obtain ⟨o1, v1, i1, rfl, ho1⟩ := h1.at_ (by omega)
  obtain rfl : e = 5 := ez.resolve_left (by simp)
  obtain ⟨kd, ly, ex, td, ky, hrd, bx, d0, d1⟩ := h1.el _ _ _ rfl j (by omega) (by omega)
  have hz : S.rd o1 v1 (i1 + j * 5) 5 = some [.int .i64 kd, .int .i64 ly, .int .i64 ex, .int .u32 td, .bool ky] := by rw [he.rd ho1]; exact hrd
  have hix : ixOf (.int .i64 (j : Int)) len = some j := by rw [ix_ok (by omega) c1]; rfl
  have wj : IntKind.i64.wrap ((j : Int) + 1) = ((j + 1 : Nat) : Int) := w64_id (by omega) (by omega)
  obtain ⟨A1, hA1⟩ : ∃ A1, (S.alloc (.cells [.int .i64 0, .int .i64 0, .int .i64 0, .int .u32 0, .bool false] 0 0 true)).put S.next (.cells [.int .i64 kd, .int .i64 ly, .int .i64 ex, .int .u32 td, .bool ky] 0 0 true) = A1 := ⟨_, rfl⟩
  have eA : Ext S A1 := by rw [← hA1]; exact ((Ext.alloc S _)).then_put (Nat.le_refl _) _
  have nA : A1.next = S.next + 1 := by rw [← hA1]; rfl
  have gA : A1.get o = some (wr x) := eA.get (by omega) gw
  have gR : A1.get (o + 1) = some (rf r) := eA.get (by omega) gr
  have gv : A1.get S.next = some (.cells [.int .i64 kd, .int .i64 ly, .int .i64 ex, .int .u32 td, .bool ky] 0 0 true) := by rw [← hA1, St.get_put, if_pos rfl]
  have rv : ∀ v i m, A1.rd S.next v i m = rdO (.cells [.int .i64 kd, .int .i64 ly, .int .i64 ex, .int .u32 td, .bool ky] 0 0 true) v i m := rd_of gv
  have ejj : ((j + 1 : Nat) : Int) = (j : Int) + 1 := by omega
  by_cases c3 : kd = 6
  · subst c3
    obtain ⟨S1, r1, u1⟩ := T11 (k + 195) gA ly
    have r1 : evF Y AP (k + 199) 11 [pt o, .int .i64 ly] A1 = _ := r1
    obtain ⟨S2, r2, u2⟩ := T24 (k + 195) (o := o + 1) (r := r) (by rw [u1.else (by omega)]; exact gR) ly
    have r2 : evF Y AP (k + 199) 24 [pr (o + 1), .int .i64 ly] S1 = _ := r2
    obtain ⟨w1, R1⟩ := R.want ly
    rw [w1] at r2
    have rv1 : ∀ v i m, S1.rd S.next v i m = rdO (.cells [.int .i64 6, .int .i64 ly, .int .i64 ex, .int .u32 td, .bool ky] 0 0 true) v i m := rd_of (by rw [u1.else (by omega)]; exact gv)
    have g1 : S2.get o = some (wr (wantW x ly)) := by rw [u2.else (by omega)]; exact u1.same
    have q28 := T28 (k + 191) g1 u2.same R1
    have q28 : evF Y AP (k + 199) 28 [pt o, pr (o + 1)] S2 = _ := q28
    have nx1 := u1.next
    have nx2 := u2.next
    simp -implicitDefEqProofs -dsimp (maxSteps := 10000000) only [af16_l0, ↓goes_loop, ↓goes_seq, ↓goes_reg, ↓goes_dreg, ↓goes_cond, ↓goes_block, ↓goes_skip, ↓goes_exit, ↓goes_ret, after_some, br_true, br_false, ↓then_normal, ↓then_exit, ↓then_ret, ↓blk_normal, ↓blk_exit, ↓blk_ret, ↓blk_other, ops_nil, ops_some, ops_none, oper_none, oper_some, gd_tt, gd_ff, gd_tf, gd_ft, gd_undef, ↓any_op, ↓any_call, ↓any_callV, ↓any_invoke, xo_t, xo_c, args_nil, args_cons, bin_add, bin_sub, bin_mul, bin_quo, bin_rem, bin_and, bin_or, bin_xor, bin_andNot, bin_eql, bin_neq, bin_lss, bin_leq, bin_gtr, bin_geq, bin_shl, bin_shr, bin_bools, bin_strs, bin_ptrs, bin_slices, bin_aggs, ↓Option.bind_some, ↓Option.map_some, ↓cond_true, ↓cond_false, evC, evOp, XO.lit, setArgs, Tr.get_set, Option.bind_some, Option.map_some, cond_true, cond_false, maxI, maxFrom, minI, minFrom, aConv, aBinE, aEq, eqScal, aUn, evRes, fin, oneOf, if_true, if_false, callee, reduceCtorEq, Nat.reduceEqDiff, and_self, decide_true, decide_false, beq_true, beq_false, Bool.not_true, Bool.not_false, List.getElem?_cons_zero, List.getElem?_cons_succ, beq_self_eq_true, gt_iff_lt, ble_dec, beq_dec, List.head?_cons, AV.undef, eq_self, ne_eq, not_true_eq_false, not_false_eq_true, Int.reduceLT, Int.reduceLE, Int.reduceToNat, Int.reduceEq, Int.reduceNeg, Nat.reduceAdd, Nat.reduceLT, Nat.reduceLeDiff, Nat.reduceMul, Nat.reduceSub, ↓evDraw_nil, putD, evDraw, trace, List.all_cons, List.all_nil, chk, stAt, again, sameV, sameA, AV.undef, Bool.and_self, Bool.and_true, decide_eq_true_eq, List.getElem?_nil, AV.cells, AV.tup, Bool.true_and, true_and, and_true, List.drop_nil, List.append_nil, rd_put, rd_alloc, rdO, St.get_put, St.get_alloc, St.next_put, St.next_alloc, St.wr, Bool.and_self, Bool.and_true, List.length_cons, List.length_nil, List.take_succ_cons, List.take_zero, List.drop_succ_cons, List.drop_zero, List.cons_append, List.nil_append, Nat.zero_add, Nat.add_zero, Nat.reduceMul, aFill, evParts, rep, List.replicate_succ, List.replicate_zero, List.flatten_cons, List.flatten_nil, List.append_nil, newSl, newVar, Option.isNone_some, t1, t5, t6, t7, c1, c2, hm1, hix, hz, hA1, rv, rv1, r1, r2, q28, wj]
    refine ⟨m - 1, ⟨?_, ?_, ?_, u2.ext (u1.ext (he.trans eA) ho) (by omega), by omega, wantW x ly, wantR r ly, j + 1, ?_, g1, u2.same, by rw [ejj]; exact R1.more, by omega, by omega⟩, by simp only [id]; omega⟩
    iterate 4 (simp only [Tr.get_set, Nat.reduceEqDiff, if_false, if_true, t1, t5, t6])
  by_cases c4 : kd = 7
  · subst c4
    obtain ⟨S1, r1, u1⟩ := T17 (k + 195) gA
    have r1 : evF Y AP (k + 199) 17 [pt o] A1 = _ := r1
    obtain ⟨S2, r2, u2⟩ := T25 (k + 195) (o := o + 1) (r := r) (by rw [u1.else (by omega)]; exact gR)
    have r2 : evF Y AP (k + 199) 25 [pr (o + 1)] S1 = _ := r2
    have R1 := R.lost
    have g1 : S2.get o = some (wr { x with l := -1 }) := by rw [u2.else (by omega)]; exact u1.same
    have q28 := T28 (k + 191) g1 u2.same R1
    have q28 : evF Y AP (k + 199) 28 [pt o, pr (o + 1)] S2 = _ := q28
    have nx1 := u1.next
    have nx2 := u2.next
    simp -implicitDefEqProofs -dsimp (maxSteps := 10000000) only [af16_l0, ↓goes_loop, ↓goes_seq, ↓goes_reg, ↓goes_dreg, ↓goes_cond, ↓goes_block, ↓goes_skip, ↓goes_exit, ↓goes_ret, after_some, br_true, br_false, ↓then_normal, ↓then_exit, ↓then_ret, ↓blk_normal, ↓blk_exit, ↓blk_ret, ↓blk_other, ops_nil, ops_some, ops_none, oper_none, oper_some, gd_tt, gd_ff, gd_tf, gd_ft, gd_undef, ↓any_op, ↓any_call, ↓any_callV, ↓any_invoke, xo_t, xo_c, args_nil, args_cons, bin_add, bin_sub, bin_mul, bin_quo, bin_rem, bin_and, bin_or, bin_xor, bin_andNot, bin_eql, bin_neq, bin_lss, bin_leq, bin_gtr, bin_geq, bin_shl, bin_shr, bin_bools, bin_strs, bin_ptrs, bin_slices, bin_aggs, ↓Option.bind_some, ↓Option.map_some, ↓cond_true, ↓cond_false, evC, evOp, XO.lit, setArgs, Tr.get_set, Option.bind_some, Option.map_some, cond_true, cond_false, maxI, maxFrom, minI, minFrom, aConv, aBinE, aEq, eqScal, aUn, evRes, fin, oneOf, if_true, if_false, callee, reduceCtorEq, Nat.reduceEqDiff, and_self, decide_true, decide_false, beq_true, beq_false, Bool.not_true, Bool.not_false, List.getElem?_cons_zero, List.getElem?_cons_succ, beq_self_eq_true, gt_iff_lt, ble_dec, beq_dec, List.head?_cons, AV.undef, eq_self, ne_eq, not_true_eq_false, not_false_eq_true, Int.reduceLT, Int.reduceLE, Int.reduceToNat, Int.reduceEq, Int.reduceNeg, Nat.reduceAdd, Nat.reduceLT, Nat.reduceLeDiff, Nat.reduceMul, Nat.reduceSub, ↓evDraw_nil, putD, evDraw, trace, List.all_cons, List.all_nil, chk, stAt, again, sameV, sameA, AV.undef, Bool.and_self, Bool.and_true, decide_eq_true_eq, List.getElem?_nil, AV.cells, AV.tup, Bool.true_and, true_and, and_true, List.drop_nil, List.append_nil, rd_put, rd_alloc, rdO, St.get_put, St.get_alloc, St.next_put, St.next_alloc, St.wr, Bool.and_self, Bool.and_true, List.length_cons, List.length_nil, List.take_succ_cons, List.take_zero, List.drop_succ_cons, List.drop_zero, List.cons_append, List.nil_append, Nat.zero_add, Nat.add_zero, Nat.reduceMul, aFill, evParts, rep, List.replicate_succ, List.replicate_zero, List.flatten_cons, List.flatten_nil, List.append_nil, newSl, newVar, Option.isNone_some, t1, t5, t6, t7, c1, c2, hm1, hix, hz, hA1, rv, r1, r2, q28, wj]
    refine ⟨m - 1, ⟨?_, ?_, ?_, u2.ext (u1.ext (he.trans eA) ho) (by omega), by omega, { x with l := -1 }, { r with l := -1 }, j + 1, ?_, g1, u2.same, by rw [ejj]; exact R1.more, by omega, by omega⟩, by simp only [id]; omega⟩
    iterate 4 (simp only [Tr.get_set, Nat.reduceEqDiff, if_false, if_true, t1, t5, t6])
  -- a packet
  obtain ⟨mk, hmk⟩ : ∃ mk, decide (Int.tmod (j : Int) 2 = 0) = mk := ⟨_, rfl⟩
  obtain ⟨ty, hty⟩ : ∃ ty, Go.bits .and .i64 (j : Int) 127 = ty := ⟨_, rfl⟩
  obtain ⟨sq, hsq⟩ : ∃ sq, IntKind.u16.wrap ex = sq := ⟨_, rfl⟩
  have wu8 : IntKind.u8.wrap (j : Int) = (j : Int) := u8_id (by omega) (by omega)
  obtain ⟨A2, hA2⟩ : ∃ A2, A1.alloc (.cells [.int .u8 (j : Int), .int .u8 7] 0 0 true) = A2 := ⟨_, rfl⟩
  have byL : Byt [j, 7] := fun b hb => by simp at hb; omega
  have b2 : By A2 (some (A1.next, 0, 0)) 1 [j, 7] := by rw [← hA2]; exact .lit byL (by simp)
  have e2 : Ext A1 A2 := by rw [← hA2]; exact .alloc _ _
  have n2 : A2.next = A1.next + 1 := by rw [← hA2]; rfl
  obtain ⟨pc, hpc⟩ : ∃ pc, (AO.cells [.bool mk, .int .i64 ty, .int .u16 sq, .int .u32 td, .int .u32 9, .slice none 0 0 none, .int .u16 0, .slice none 0 0 none, .slice (some (A1.next, 0, 0)) 2 1 none] 0 0 true) = pc := ⟨_, rfl⟩
  obtain ⟨A3, hA3⟩ : ∃ A3, (A2.alloc (.cells [.bool false, .int .i64 0, .int .u16 0, .int .u32 0, .int .u32 0, .slice none 0 0 none, .int .u16 0, .slice none 0 0 none, .slice none 0 0 none] 0 0 true)).put A2.next (.cells [.bool mk, .int .i64 ty, .int .u16 sq, .int .u32 td, .int .u32 9, .slice none 0 0 none, .int .u16 0, .slice none 0 0 none, .slice (some (A1.next, 0, 0)) 2 1 none] 0 0 true) = A3 := ⟨_, rfl⟩
  have e3 : Ext A2 A3 := by rw [← hA3]; exact (Ext.alloc A2 _).then_put (Nat.le_refl _) _
  have n3 : A3.next = A2.next + 1 := by rw [← hA3]; rfl
  have e03 : Ext A1 A3 := e2.trans e3
  have gp : A3.get A2.next = some (.cells [.bool mk, .int .i64 ty, .int .u16 sq, .int .u32 td, .int .u32 9, .slice none 0 0 none, .int .u16 0, .slice none 0 0 none, .slice (some (A1.next, 0, 0)) 2 1 none] 0 0 true) := by
    rw [← hA3, St.get_put, if_pos rfl]
  have rp : ∀ v i m, A3.rd A2.next v i m = rdO (.cells [.bool mk, .int .i64 ty, .int .u16 sq, .int .u32 td, .int .u32 9, .slice none 0 0 none, .int .u16 0, .slice none 0 0 none, .slice (some (A1.next, 0, 0)) 2 1 none] 0 0 true) v i m := rd_of gp
  have g3 : A3.get o = some (wr x) := e03.get (by omega) gA
  have gr3 : A3.get (o + 1) = some (rf r) := e03.get (by omega) gR
  have gv3 : A3.get S.next = some (.cells [.int .i64 kd, .int .i64 ly, .int .i64 ex, .int .u32 td, .bool ky] 0 0 true) := e03.get (by omega) gv
  have rv3 : ∀ v i m, A3.rd S.next v i m = rdO (.cells [.int .i64 kd, .int .i64 ly, .int .i64 ex, .int .u32 td, .bool ky] 0 0 true) v i m := rd_of gv3
  have b3 : By A3 (some (A1.next, 0, 0)) 1 [j, 7] := b2.ext e3
  have e13 : Ext Sb A3 := (he.trans eA).trans e03
  have nb := e13.next
  obtain ⟨v, S2, r2, pk⟩ := T12 (k + 189) g3 (by omega) (L := ly) (E := ex) (ty := ty) (sq := sq) (tm := td) (ss := 9) (pf := 0) (K := ky) (mk := mk) (cs := .slice none 0 0 none) (ex := .slice none 0 0 none) d0 d1 (c := none) b3 (fun o' v i h => by cases h; omega) (by simp)
  have r2 : evF Y AP (k + 199) 12 [pt o, .int .i64 ly, .int .i64 ex, .bool ky, .agg [.bool mk, .int .i64 ty, .int .u16 sq, .int .u32 td, .int .u32 9, .slice none 0 0 none, .int .u16 0, .slice none 0 0 none, .slice (some (A1.next, 0, 0)) 2 1 none]] A3 = some (v, S2) := r2
  unfold Pkd at pk
  -- both
  obtain ⟨x', r', uu, wv, S3a, hS3a, h2, h3, h4, h5⟩ : ∃ (x' : Wr) (r' : Rf) (ra : Bool × Int × Int × Int × Int × AV) (ok : Bool) (S2' : St), S2' = S2 ∧ v = .tuple [.agg (rtp ra.1 ra.2.1 ra.2.2.1 ra.2.2.2.1 ra.2.2.2.2.1 ra.2.2.2.2.2), .bool ok] ∧ RL (j + 1) x' r' ∧ Mut A3 S2 o (wr x') ∧
      (pkR r ly ex ky td = none ∧ r' = r ∧ ok = false ∧ ra = (false, 0, 0, 0, 0, .slice none 0 0 none) ∨ pkR r ly ex ky td = some r' ∧ ok = true ∧ ra.1 = mk ∧ ra.2.1 = ty ∧ ra.2.2.1 = r'.n % 65536 ∧ ra.2.2.2.1 = r'.p % 4294967296 ∧ ra.2.2.2.2.1 = r'.s ∧ Bn A3 S2 ra.2.2.2.2.2 [j, 7]) := by
    rcases R.step (by omega) (by omega) (L := ly) (E := ex) (tm := td) (K := ky) bx d0 d1 with ⟨hk1, hk2⟩ | ⟨x', r', hk1, hk2, R'⟩
    · rw [hk1] at pk
      obtain ⟨rfl, xx⟩ := pk
      exact ⟨x, r, (false, 0, 0, 0, 0, .slice none 0 0 none), false, S2, rfl, rfl, R.more, .of_ext xx g3 (by omega), .inl ⟨hk2, rfl, rfl, rfl⟩⟩
    · rw [hk1] at pk
      obtain ⟨u, rfl, mt, bu⟩ := pk
      obtain ⟨hl, hl0⟩ := pkW_l hk1
      have hn : 0 ≤ x'.n := by
        rcases Int.lt_or_le x'.n 0 with h | h
        · have := (R'.nb h).2; omega
        · exact h
      obtain ⟨hp, _⟩ := R'.bg hn
      exact ⟨x', r', (mk, ty, x'.n % 65536, x'.p % 4294967296, x'.s, u), true, S2, rfl, rfl, R', mt, .inr ⟨hk2, rfl, rfl, rfl, by rw [R'.n], by rw [hp], by rw [R'.s], bu⟩⟩
  subst hS3a
  obtain ⟨a1, a2, a3, a4, a5, a6⟩ := uu
  subst h2
  simp only at h5
  have lt2 := h4.next
  obtain ⟨B2, hB2⟩ : ∃ B2, (S3a.alloc (.cells [.bool false, .int .i64 0, .int .u16 0, .int .u32 0, .int .u32 0, .slice none 0 0 none, .int .u16 0, .slice none 0 0 none, .slice none 0 0 none] 0 0 true)).put S3a.next (.cells [.bool a1, .int .i64 a2, .int .u16 a3, .int .u32 a4, .int .u32 a5, .slice none 0 0 none, .int .u16 0, .slice none 0 0 none, a6] 0 0 true) = B2 := ⟨_, rfl⟩
  have eB2 : Ext S3a B2 := by rw [← hB2]; exact (Ext.alloc S3a _).then_put (Nat.le_refl _) _
  have nB2 : B2.next = S3a.next + 1 := by rw [← hB2]; rfl
  have gt2 : B2.get S3a.next = some (.cells [.bool a1, .int .i64 a2, .int .u16 a3, .int .u32 a4, .int .u32 a5, .slice none 0 0 none, .int .u16 0, .slice none 0 0 none, a6] 0 0 true) := by rw [← hB2, St.get_put, if_pos rfl]
  have gp2 : B2.get A2.next = some (.cells [.bool mk, .int .i64 ty, .int .u16 sq, .int .u32 td, .int .u32 9, .slice none 0 0 none, .int .u16 0, .slice none 0 0 none, .slice (some (A1.next, 0, 0)) 2 1 none] 0 0 true) := eB2.get (by omega) (by rw [h4.old _ (by omega) (by omega)]; exact gp)
  have gv2 : B2.get S.next = some (.cells [.int .i64 kd, .int .i64 ly, .int .i64 ex, .int .u32 td, .bool ky] 0 0 true) := eB2.get (by omega) (by rw [h4.old _ (by omega) (by omega)]; exact gv3)
  have rp2 : ∀ v i m, B2.rd A2.next v i m = rdO (.cells [.bool mk, .int .i64 ty, .int .u16 sq, .int .u32 td, .int .u32 9, .slice none 0 0 none, .int .u16 0, .slice none 0 0 none, .slice (some (A1.next, 0, 0)) 2 1 none] 0 0 true) v i m := rd_of gp2
  have rv2 : ∀ v i m, B2.rd S.next v i m = rdO (.cells [.int .i64 kd, .int .i64 ly, .int .i64 ex, .int .u32 td, .bool ky] 0 0 true) v i m := rd_of gv2
  have gr2 : B2.get (o + 1) = some (rf r) := eB2.get (by omega) (by rw [h4.old _ (by omega) (by omega)]; exact gr3)
  have gw2 : B2.get o = some (wr x') := eB2.get (by omega) h4.get
  have bB : By B2 (some (A1.next, 0, 0)) 1 [j, 7] := (b3.mut h4 (fun o' v i h => by cases h; omega)).ext eB2
  obtain ⟨v', S3, r3, pr3⟩ := T26 (k + 189) gr2 (by omega) (L := ly) (E := ex) (ty := ty) (sq := sq) (tm := td) (ss := 9) (pf := 0) (K := ky) (mk := mk) (cs := .slice none 0 0 none) (ex := .slice none 0 0 none) d0 d1 (c := none) bB (by omega) (by simp)
  have r3 : evF Y AP (k + 199) 26 [pr (o + 1), .int .i64 ly, .int .i64 ex, .bool ky, .agg [.bool mk, .int .i64 ty, .int .u16 sq, .int .u32 td, .int .u32 9, .slice none 0 0 none, .int .u16 0, .slice none 0 0 none, .slice (some (A1.next, 0, 0)) 2 1 none]] B2 = some (v', S3) := r3
  unfold Prd at pr3
  obtain ⟨a6', h6, h7, pl, h8, h9⟩ : ∃ (a6' : AV), v' = .tuple [.agg (rtp a1 a2 a3 a4 a5 a6'), .bool wv] ∧ Mut B2 S3 (o + 1) (rf r') ∧ ∃ pl, Bn A3 S3a a6 pl ∧ Bs S3 a6' pl := by
    rcases h5 with ⟨hk, rfl, rfl, hra⟩ | ⟨hk, rfl, rfl, rfl, rfl, rfl, rfl, hb⟩
    · rw [hk] at pr3
      obtain ⟨rfl, xx⟩ := pr3
      simp only [Prod.mk.injEq] at hra
      obtain ⟨rfl, rfl, rfl, rfl, rfl, rfl⟩ := hra
      exact ⟨.slice none 0 0 none, rfl, .of_ext xx gr2 (by omega), [], .zero _ _ _, .zero _ _⟩
    · rw [hk] at pr3
      obtain ⟨u, rfl, mt, bu⟩ := pr3
      exact ⟨u, rfl, mt, _, hb, bu⟩
  subst h6
  have lt3 := h7.next
  obtain ⟨B3, hB3⟩ : ∃ B3, (S3.alloc (.cells [.bool false, .int .i64 0, .int .u16 0, .int .u32 0, .int .u32 0, .slice none 0 0 none, .int .u16 0, .slice none 0 0 none, .slice none 0 0 none] 0 0 true)).put S3.next (.cells [.bool a1, .int .i64 a2, .int .u16 a3, .int .u32 a4, .int .u32 a5, .slice none 0 0 none, .int .u16 0, .slice none 0 0 none, a6'] 0 0 true) = B3 := ⟨_, rfl⟩
  have eB3 : Ext S3 B3 := by rw [← hB3]; exact (Ext.alloc S3 _).then_put (Nat.le_refl _) _
  have nB3 : B3.next = S3.next + 1 := by rw [← hB3]; rfl
  have gt3 : B3.get S3.next = some (.cells [.bool a1, .int .i64 a2, .int .u16 a3, .int .u32 a4, .int .u32 a5, .slice none 0 0 none, .int .u16 0, .slice none 0 0 none, a6'] 0 0 true) := by rw [← hB3, St.get_put, if_pos rfl]
  have gt2' : B3.get S3a.next = some (.cells [.bool a1, .int .i64 a2, .int .u16 a3, .int .u32 a4, .int .u32 a5, .slice none 0 0 none, .int .u16 0, .slice none 0 0 none, a6] 0 0 true) := eB3.get (by omega) (by rw [h7.old _ (by omega) (by omega)]; exact gt2)
  have rt2 : ∀ v i m, B3.rd S3a.next v i m = rdO (.cells [.bool a1, .int .i64 a2, .int .u16 a3, .int .u32 a4, .int .u32 a5, .slice none 0 0 none, .int .u16 0, .slice none 0 0 none, a6] 0 0 true) v i m := rd_of gt2'
  have rt3 : ∀ v i m, B3.rd S3.next v i m = rdO (.cells [.bool a1, .int .i64 a2, .int .u16 a3, .int .u32 a4, .int .u32 a5, .slice none 0 0 none, .int .u16 0, .slice none 0 0 none, a6'] 0 0 true) v i m := rd_of gt3
  have l3 : o + 1 < A3.next := by omega
  obtain ⟨S4, r4, x4⟩ := T27 (S := B3) (k + 195) (mk := a1) (ty := a2) (sq := a3) (tm := a4) (ss := a5) (((h8.ext eB2).mut h7 l3).ext eB3).bs (h9.ext eB3)
  have r4 : evF Y AP (k + 199) 27 [.agg [.bool a1, .int .i64 a2, .int .u16 a3, .int .u32 a4, .int .u32 a5, .slice none 0 0 none, .int .u16 0, .slice none 0 0 none, a6], .agg [.bool a1, .int .i64 a2, .int .u16 a3, .int .u32 a4, .int .u32 a5, .slice none 0 0 none, .int .u16 0, .slice none 0 0 none, a6']] B3 = some (.bool true, S4) := r4
  have gw4 : S4.get o = some (wr x') := x4.get (by omega) (eB3.get (by omega) (by rw [h7.old _ (by omega) (by omega)]; exact gw2))
  have gr4 : S4.get (o + 1) = some (rf r') := x4.get (by omega) (eB3.get (by omega) h7.get)
  have q28 := T28 (k + 191) gw4 gr4 h3
  have q28 : evF Y AP (k + 199) 28 [pt o, pr (o + 1)] S4 = _ := q28
  have z2 : ¬ (2 : Int) = 0 := by decide
  have eF : Ext Sb S4 := ((h7.ext ((h4.ext e13 ho).trans eB2) (by omega)).trans eB3).trans x4
  have nF := x4.next
  cases wv with
  | true =>
    simp -implicitDefEqProofs -dsimp (maxSteps := 10000000) only [af16_l0, ↓goes_loop, ↓goes_seq, ↓goes_reg, ↓goes_dreg, ↓goes_cond, ↓goes_block, ↓goes_skip, ↓goes_exit, ↓goes_ret, after_some, br_true, br_false, ↓then_normal, ↓then_exit, ↓then_ret, ↓blk_normal, ↓blk_exit, ↓blk_ret, ↓blk_other, ops_nil, ops_some, ops_none, oper_none, oper_some, gd_tt, gd_ff, gd_tf, gd_ft, gd_undef, ↓any_op, ↓any_call, ↓any_callV, ↓any_invoke, xo_t, xo_c, args_nil, args_cons, bin_add, bin_sub, bin_mul, bin_quo, bin_rem, bin_and, bin_or, bin_xor, bin_andNot, bin_eql, bin_neq, bin_lss, bin_leq, bin_gtr, bin_geq, bin_shl, bin_shr, bin_bools, bin_strs, bin_ptrs, bin_slices, bin_aggs, ↓Option.bind_some, ↓Option.map_some, ↓cond_true, ↓cond_false, evC, evOp, XO.lit, setArgs, Tr.get_set, Option.bind_some, Option.map_some, cond_true, cond_false, maxI, maxFrom, minI, minFrom, aConv, aBinE, aEq, eqScal, aUn, evRes, fin, oneOf, if_true, if_false, callee, reduceCtorEq, Nat.reduceEqDiff, and_self, decide_true, decide_false, beq_true, beq_false, Bool.not_true, Bool.not_false, List.getElem?_cons_zero, List.getElem?_cons_succ, beq_self_eq_true, gt_iff_lt, ble_dec, beq_dec, List.head?_cons, AV.undef, eq_self, ne_eq, not_true_eq_false, not_false_eq_true, Int.reduceLT, Int.reduceLE, Int.reduceToNat, Int.reduceEq, Int.reduceNeg, Nat.reduceAdd, Nat.reduceLT, Nat.reduceLeDiff, Nat.reduceMul, Nat.reduceSub, ↓evDraw_nil, putD, evDraw, trace, List.all_cons, List.all_nil, chk, stAt, again, sameV, sameA, AV.undef, Bool.and_self, Bool.and_true, decide_eq_true_eq, List.getElem?_nil, AV.cells, AV.tup, Bool.true_and, true_and, and_true, List.drop_nil, List.append_nil, rd_put, rd_alloc, rdO, St.get_put, St.get_alloc, St.next_put, St.next_alloc, St.wr, Bool.and_self, Bool.and_true, List.length_cons, List.length_nil, List.take_succ_cons, List.take_zero, List.drop_succ_cons, List.drop_zero, List.cons_append, List.nil_append, Nat.zero_add, Nat.add_zero, Nat.reduceMul, aFill, evParts, rep, List.replicate_succ, List.replicate_zero, List.flatten_cons, List.flatten_nil, List.append_nil, newSl, newVar, Option.isNone_some, rtp, t1, t5, t6, t7, c1, c2, hm1, hix, hz, hA1, rv, c3, c4, z2, hmk, hty, hsq, wu8, hA2, hA3, rv3, rp, r2, hB2, rv2, rp2, r3, hB3, rt2, rt3, r4, q28, wj]
    refine ⟨m - 1, ⟨?_, ?_, ?_, eF, by omega, x', r', j + 1, ?_, gw4, gr4, by rw [ejj]; exact h3, by omega, by omega⟩, by simp only [id]; omega⟩
    iterate 4 (simp only [Tr.get_set, Nat.reduceEqDiff, if_false, if_true, t1, t5, t6])
  | false =>
    simp -implicitDefEqProofs -dsimp (maxSteps := 10000000) only [af16_l0, ↓goes_loop, ↓goes_seq, ↓goes_reg, ↓goes_dreg, ↓goes_cond, ↓goes_block, ↓goes_skip, ↓goes_exit, ↓goes_ret, after_some, br_true, br_false, ↓then_normal, ↓then_exit, ↓then_ret, ↓blk_normal, ↓blk_exit, ↓blk_ret, ↓blk_other, ops_nil, ops_some, ops_none, oper_none, oper_some, gd_tt, gd_ff, gd_tf, gd_ft, gd_undef, ↓any_op, ↓any_call, ↓any_callV, ↓any_invoke, xo_t, xo_c, args_nil, args_cons, bin_add, bin_sub, bin_mul, bin_quo, bin_rem, bin_and, bin_or, bin_xor, bin_andNot, bin_eql, bin_neq, bin_lss, bin_leq, bin_gtr, bin_geq, bin_shl, bin_shr, bin_bools, bin_strs, bin_ptrs, bin_slices, bin_aggs, ↓Option.bind_some, ↓Option.map_some, ↓cond_true, ↓cond_false, evC, evOp, XO.lit, setArgs, Tr.get_set, Option.bind_some, Option.map_some, cond_true, cond_false, maxI, maxFrom, minI, minFrom, aConv, aBinE, aEq, eqScal, aUn, evRes, fin, oneOf, if_true, if_false, callee, reduceCtorEq, Nat.reduceEqDiff, and_self, decide_true, decide_false, beq_true, beq_false, Bool.not_true, Bool.not_false, List.getElem?_cons_zero, List.getElem?_cons_succ, beq_self_eq_true, gt_iff_lt, ble_dec, beq_dec, List.head?_cons, AV.undef, eq_self, ne_eq, not_true_eq_false, not_false_eq_true, Int.reduceLT, Int.reduceLE, Int.reduceToNat, Int.reduceEq, Int.reduceNeg, Nat.reduceAdd, Nat.reduceLT, Nat.reduceLeDiff, Nat.reduceMul, Nat.reduceSub, ↓evDraw_nil, putD, evDraw, trace, List.all_cons, List.all_nil, chk, stAt, again, sameV, sameA, AV.undef, Bool.and_self, Bool.and_true, decide_eq_true_eq, List.getElem?_nil, AV.cells, AV.tup, Bool.true_and, true_and, and_true, List.drop_nil, List.append_nil, rd_put, rd_alloc, rdO, St.get_put, St.get_alloc, St.next_put, St.next_alloc, St.wr, Bool.and_self, Bool.and_true, List.length_cons, List.length_nil, List.take_succ_cons, List.take_zero, List.drop_succ_cons, List.drop_zero, List.cons_append, List.nil_append, Nat.zero_add, Nat.add_zero, Nat.reduceMul, aFill, evParts, rep, List.replicate_succ, List.replicate_zero, List.flatten_cons, List.flatten_nil, List.append_nil, newSl, newVar, Option.isNone_some, rtp, t1, t5, t6, t7, c1, c2, hm1, hix, hz, hA1, rv, c3, c4, z2, hmk, hty, hsq, wu8, hA2, hA3, rv3, rp, r2, hB2, rv2, rp2, r3, hB3, rt2, rt3, r4, q28, wj]
    refine ⟨m - 1, ⟨?_, ?_, ?_, eF, by omega, x', r', j + 1, ?_, gw4, gr4, by rw [ejj]; exact h3, by omega, by omega⟩, by simp only [id]; omega⟩
    iterate 4 (simp only [Tr.get_set, Nat.reduceEqDiff, if_false, if_true, t1, t5, t6])
set_option maxHeartbeats 4000000 in
/-- play -/
theorem T16 (k : Nat) {s : Int} {p : Option (Nat × Nat × Nat)} {len e : Nat} {S : St} (ez : p = none ∨ e = 5) (h1 : Aq S p len) :
    ∃ S', evF Y AP (k + 200) 16 [.int .u32 s, .slice p len e none] S = some (.bool true, S') ∧ Ext S S' := by
  suffices hh : ∃ v S', evF Y AP (k + 200) 16 [.int .u32 s, .slice p len e none] S = some (v, S') ∧ (v = .bool true ∧ Ext S S') by
    obtain ⟨v, S', h1, rfl, h2⟩ := hh; exact ⟨S', h1, h2⟩
  obtain ⟨S1, r1, b1⟩ := T8 (S := S) (k + 195) s
  have r1 : evF Y AP (k + 199) 8 [.int .u32 s] S = _ := r1
  obtain ⟨S2, r2, b2⟩ := T23 (S := S1) (k + 195) s
  have r2 : evF Y AP (k + 199) 23 [.int .u32 s] S1 = _ := r2
  have n1 := b1.next
  have n2 := b2.next
  rw [n1] at r2
  refine evF_goes (af := af16) (k := k + 199) rfl rfl rfl ?_
  simp -implicitDefEqProofs -dsimp (maxSteps := 10000000) only [af16, ↓goes_loop, ↓goes_seq, ↓goes_reg, ↓goes_dreg, ↓goes_cond, ↓goes_block, ↓goes_skip, ↓goes_exit, ↓goes_ret, after_some, br_true, br_false, ↓then_normal, ↓then_exit, ↓then_ret, ↓blk_normal, ↓blk_exit, ↓blk_ret, ↓blk_other, ops_nil, ops_some, ops_none, oper_none, oper_some, gd_tt, gd_ff, gd_tf, gd_ft, gd_undef, ↓any_op, ↓any_call, ↓any_callV, ↓any_invoke, xo_t, xo_c, args_nil, args_cons, bin_add, bin_sub, bin_mul, bin_quo, bin_rem, bin_and, bin_or, bin_xor, bin_andNot, bin_eql, bin_neq, bin_lss, bin_leq, bin_gtr, bin_geq, bin_shl, bin_shr, bin_bools, bin_strs, bin_ptrs, bin_slices, bin_aggs, ↓Option.bind_some, ↓Option.map_some, ↓cond_true, ↓cond_false, evC, evOp, XO.lit, setArgs, Tr.tabG, Tr.tabS, Tr.tabL, Tr.get_lf, Option.bind_some, Option.map_some, cond_true, cond_false, maxI, maxFrom, minI, minFrom, aConv, aBinE, aEq, eqScal, aUn, evRes, fin, oneOf, if_true, if_false, callee, reduceCtorEq, Nat.reduceEqDiff, and_self, decide_true, decide_false, beq_true, beq_false, Bool.not_true, Bool.not_false, List.getElem?_cons_zero, List.getElem?_cons_succ, beq_self_eq_true, gt_iff_lt, ble_dec, beq_dec, List.head?_cons, AV.undef, eq_self, ne_eq, not_true_eq_false, not_false_eq_true, Int.reduceLT, Int.reduceLE, Int.reduceToNat, Int.reduceEq, Int.reduceNeg, Nat.reduceAdd, Nat.reduceLT, Nat.reduceLeDiff, Nat.reduceMul, Nat.reduceSub, ↓evDraw_nil, putD, evDraw, trace, List.all_cons, List.all_nil, chk, stAt, again, sameV, sameA, AV.undef, Bool.and_self, Bool.and_true, decide_eq_true_eq, List.getElem?_nil, r1, r2, Option.isNone_some]
  refine .while (I16 p len e S.next S) id 120 ⟨rfl, rfl, rfl, b1.ext.trans b2.ext, by omega, newW s, newR s, 0, rfl, by rw [b2.else (by omega)]; exact b1.same, by rw [← n1]; exact b2.same, ?_, by omega, by omega⟩ (by show 120 < k + 199; omega)
    fun m T2 S2 hI => (round16 k ez h1 (Nat.le_refl _) m T2 S2 hI).mono ?_
  · exact ⟨rfl, rfl, rfl, rfl, rfl, rfl, by show (-1 : Int) ≤ -1; omega, by show (-1 : Int) ≤ 281474976710656 * ((0 : Nat) : Int); omega, by show (0 : Int) ≤ 0; omega, by show (0 : Int) ≤ 140737488355328; omega, fun h => absurd h (by show ¬ (0 : Int) ≤ -1; omega), fun _ => ⟨rfl, rfl⟩, fun h => absurd rfl h⟩
  · intro r T' S' hq
    cases r with
    | normal => exact hq
    | ret => exact absurd hq.1 (by simp)
    | exit j =>
      obtain ⟨hi, m', t1, t5, t6, he, _⟩ := hq
      cases hi
      simp -implicitDefEqProofs -dsimp (maxSteps := 10000000) only [↓goes_loop, ↓goes_seq, ↓goes_reg, ↓goes_dreg, ↓goes_cond, ↓goes_block, ↓goes_skip, ↓goes_exit, ↓goes_ret, after_some, br_true, br_false, ↓then_normal, ↓then_exit, ↓then_ret, ↓blk_normal, ↓blk_exit, ↓blk_ret, ↓blk_other, ops_nil, ops_some, ops_none, oper_none, oper_some, gd_tt, gd_ff, gd_tf, gd_ft, gd_undef, ↓any_op, ↓any_call, ↓any_callV, ↓any_invoke, xo_t, xo_c, args_nil, args_cons, bin_add, bin_sub, bin_mul, bin_quo, bin_rem, bin_and, bin_or, bin_xor, bin_andNot, bin_eql, bin_neq, bin_lss, bin_leq, bin_gtr, bin_geq, bin_shl, bin_shr, bin_bools, bin_strs, bin_ptrs, bin_slices, bin_aggs, ↓Option.bind_some, ↓Option.map_some, ↓cond_true, ↓cond_false, evC, evOp, XO.lit, setArgs, Tr.get_set, Option.bind_some, Option.map_some, cond_true, cond_false, maxI, maxFrom, minI, minFrom, aConv, aBinE, aEq, eqScal, aUn, evRes, fin, oneOf, if_true, if_false, callee, reduceCtorEq, Nat.reduceEqDiff, and_self, decide_true, decide_false, beq_true, beq_false, Bool.not_true, Bool.not_false, List.getElem?_cons_zero, List.getElem?_cons_succ, beq_self_eq_true, gt_iff_lt, ble_dec, beq_dec, List.head?_cons, AV.undef, eq_self, ne_eq, not_true_eq_false, not_false_eq_true, Int.reduceLT, Int.reduceLE, Int.reduceToNat, Int.reduceEq, Int.reduceNeg, Nat.reduceAdd, Nat.reduceLT, Nat.reduceLeDiff, Nat.reduceMul, Nat.reduceSub, t5, Option.isNone_some]
      exact ⟨_, _, rfl, rfl, he⟩
end Go.Proofs.YtdppaegnmdiheaaA
