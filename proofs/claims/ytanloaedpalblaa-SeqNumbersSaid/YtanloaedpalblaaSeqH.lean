/- Chapter 15: rows of numbers: both programs tell the same. -/
import Derived.Test.YtanloaedpalblaaSeqG
set_option linter.unusedVariables false
set_option linter.unusedSimpArgs false
set_option maxRecDepth 10000
namespace Go.Proofs.YtanloaedpalblaaA
open Go.RowKit
attribute [local congr] bind_congr1 map_congr1 cond_congr1 withX_congr after_congr br_congr gd_congr

def lost (s : Sn) : Int := if s.l < 0 then 0 else s.l - s.f + 1 - s.c
theorem T15 {S : St} {o : Nat} {s : Sn} (k : Nat) (hS : S.get o = some (sn s)) : evF X6 AP (k + 4) 15 [pt o] S = some (.int .i64 s.l, S) := by
  rw [evF_body (af := af15) rfl rfl rfl]
  have hrd : ∀ v i m, S.rd o v i m = rdO (sn s) v i m := rd_of hS
  simp -implicitDefEqProofs -dsimp (maxSteps := 10000000) only [af15, ops_nil, ops_some, ops_none, oper_none, oper_some, gd_tt, gd_ff, gd_tf, gd_ft, ↓any_op, ↓any_call, ↓any_callV, ↓any_invoke, xo_t, xo_c, args_nil, args_cons, bin_add, bin_sub, bin_mul, bin_quo, bin_rem, bin_and, bin_or, bin_xor, bin_andNot, bin_eql, bin_neq, bin_lss, bin_leq, bin_gtr, bin_geq, bin_shl, bin_shr, bin_bools, bin_strs, bin_ptrs, bin_slices, bin_aggs, ↓Option.bind_some, ↓Option.map_some, ↓cond_true, ↓cond_false, evC, evOp, XO.lit, setArgs, Tr.tabG, Tr.tabS, Tr.tabL, Tr.get_lf, Option.bind_some, Option.map_some, cond_true, cond_false, maxI, maxFrom, minI, minFrom, aConv, aBinE, aEq, eqScal, aUn, evRes, fin, oneOf, if_true, if_false, callee, evF_eq, withX_some, withX_none, addX, X0, sN0, sN1, sN2, sN3, sN4, reduceCtorEq, Nat.reduceEqDiff, and_self, decide_true, decide_false, beq_true, beq_false, Bool.not_true, Bool.not_false, List.getElem?_cons_zero, List.getElem?_cons_succ, beq_self_eq_true, gt_iff_lt, ble_dec, beq_dec, List.head?_cons, AV.undef, eq_self, ne_eq, not_true_eq_false, not_false_eq_true, Int.reduceLT, Int.reduceLE, Int.reduceToNat, Int.reduceEq, Int.reduceNeg, Nat.reduceAdd, Nat.reduceLT, Nat.reduceLeDiff, Nat.reduceMul, Nat.reduceSub, ↓evDraw_nil, putD, evDraw, trace, List.all_cons, List.all_nil, chk, stAt, again, sameV, sameA, Bool.and_self, Bool.and_true, decide_eq_true_eq, List.getElem?_nil, AV.cells, AV.tup, Bool.true_and, true_and, and_true, List.drop_nil, List.append_nil, rd_put, rd_alloc, rdO, St.get_put, St.get_alloc, St.next_put, St.next_alloc, St.wr, Bool.and_self, Bool.and_true, List.length_cons, List.length_nil, List.take_succ_cons, List.take_zero, List.drop_succ_cons, List.drop_zero, List.cons_append, List.nil_append, Nat.zero_add, Nat.add_zero, Nat.reduceMul, X6, X5, X4, X3, X2, X1, pt, hrd, sn]
theorem T16 {S : St} {o : Nat} {s : Sn} {r : Nat} (k : Nat) (g : Good r s) (hS : S.get o = some (sn s)) : evF X6 AP (k + 4) 16 [pt o] S = some (.int .i64 (lost s), S) := by
  rw [evF_body (af := af16) rfl rfl rfl]
  have hrd : ∀ v i m, S.rd o v i m = rdO (sn s) v i m := rd_of hS
  have := g.ll; have := g.few; have := g.c0; have := g.cr; have := g.fl
  by_cases c0 : s.l < 0
  · simp -implicitDefEqProofs -dsimp (maxSteps := 10000000) only [af16, ops_nil, ops_some, ops_none, oper_none, oper_some, gd_tt, gd_ff, gd_tf, gd_ft, ↓any_op, ↓any_call, ↓any_callV, ↓any_invoke, xo_t, xo_c, args_nil, args_cons, bin_add, bin_sub, bin_mul, bin_quo, bin_rem, bin_and, bin_or, bin_xor, bin_andNot, bin_eql, bin_neq, bin_lss, bin_leq, bin_gtr, bin_geq, bin_shl, bin_shr, bin_bools, bin_strs, bin_ptrs, bin_slices, bin_aggs, ↓Option.bind_some, ↓Option.map_some, ↓cond_true, ↓cond_false, evC, evOp, XO.lit, setArgs, Tr.tabG, Tr.tabS, Tr.tabL, Tr.get_lf, Option.bind_some, Option.map_some, cond_true, cond_false, maxI, maxFrom, minI, minFrom, aConv, aBinE, aEq, eqScal, aUn, evRes, fin, oneOf, if_true, if_false, callee, evF_eq, withX_some, withX_none, addX, X0, sN0, sN1, sN2, sN3, sN4, reduceCtorEq, Nat.reduceEqDiff, and_self, decide_true, decide_false, beq_true, beq_false, Bool.not_true, Bool.not_false, List.getElem?_cons_zero, List.getElem?_cons_succ, beq_self_eq_true, gt_iff_lt, ble_dec, beq_dec, List.head?_cons, AV.undef, eq_self, ne_eq, not_true_eq_false, not_false_eq_true, Int.reduceLT, Int.reduceLE, Int.reduceToNat, Int.reduceEq, Int.reduceNeg, Nat.reduceAdd, Nat.reduceLT, Nat.reduceLeDiff, Nat.reduceMul, Nat.reduceSub, ↓evDraw_nil, putD, evDraw, trace, List.all_cons, List.all_nil, chk, stAt, again, sameV, sameA, Bool.and_self, Bool.and_true, decide_eq_true_eq, List.getElem?_nil, AV.cells, AV.tup, Bool.true_and, true_and, and_true, List.drop_nil, List.append_nil, rd_put, rd_alloc, rdO, St.get_put, St.get_alloc, St.next_put, St.next_alloc, St.wr, Bool.and_self, Bool.and_true, List.length_cons, List.length_nil, List.take_succ_cons, List.take_zero, List.drop_succ_cons, List.drop_zero, List.cons_append, List.nil_append, Nat.zero_add, Nat.add_zero, Nat.reduceMul, pt, hrd, sn, c0, lost]
  · have f0 := g.f0 (by omega)
    have w1 : IntKind.i64.wrap (s.l - s.f) = s.l - s.f := w64_id (by omega) (by omega)
    have w2 : IntKind.i64.wrap (s.l - s.f + 1) = s.l - s.f + 1 := w64_id (by omega) (by omega)
    have w3 : IntKind.i64.wrap (s.l - s.f + 1 - s.c) = s.l - s.f + 1 - s.c := w64_id (by omega) (by omega)
    simp -implicitDefEqProofs -dsimp (maxSteps := 10000000) only [af16, ops_nil, ops_some, ops_none, oper_none, oper_some, gd_tt, gd_ff, gd_tf, gd_ft, ↓any_op, ↓any_call, ↓any_callV, ↓any_invoke, xo_t, xo_c, args_nil, args_cons, bin_add, bin_sub, bin_mul, bin_quo, bin_rem, bin_and, bin_or, bin_xor, bin_andNot, bin_eql, bin_neq, bin_lss, bin_leq, bin_gtr, bin_geq, bin_shl, bin_shr, bin_bools, bin_strs, bin_ptrs, bin_slices, bin_aggs, ↓Option.bind_some, ↓Option.map_some, ↓cond_true, ↓cond_false, evC, evOp, XO.lit, setArgs, Tr.tabG, Tr.tabS, Tr.tabL, Tr.get_lf, Option.bind_some, Option.map_some, cond_true, cond_false, maxI, maxFrom, minI, minFrom, aConv, aBinE, aEq, eqScal, aUn, evRes, fin, oneOf, if_true, if_false, callee, evF_eq, withX_some, withX_none, addX, X0, sN0, sN1, sN2, sN3, sN4, reduceCtorEq, Nat.reduceEqDiff, and_self, decide_true, decide_false, beq_true, beq_false, Bool.not_true, Bool.not_false, List.getElem?_cons_zero, List.getElem?_cons_succ, beq_self_eq_true, gt_iff_lt, ble_dec, beq_dec, List.head?_cons, AV.undef, eq_self, ne_eq, not_true_eq_false, not_false_eq_true, Int.reduceLT, Int.reduceLE, Int.reduceToNat, Int.reduceEq, Int.reduceNeg, Nat.reduceAdd, Nat.reduceLT, Nat.reduceLeDiff, Nat.reduceMul, Nat.reduceSub, ↓evDraw_nil, putD, evDraw, trace, List.all_cons, List.all_nil, chk, stAt, again, sameV, sameA, Bool.and_self, Bool.and_true, decide_eq_true_eq, List.getElem?_nil, AV.cells, AV.tup, Bool.true_and, true_and, and_true, List.drop_nil, List.append_nil, rd_put, rd_alloc, rdO, St.get_put, St.get_alloc, St.next_put, St.next_alloc, St.wr, Bool.and_self, Bool.and_true, List.length_cons, List.length_nil, List.take_succ_cons, List.take_zero, List.drop_succ_cons, List.drop_zero, List.cons_append, List.nil_append, Nat.zero_add, Nat.add_zero, Nat.reduceMul, pt, hrd, sn, c0, w1, w2, w3, lost]
theorem T21 {S : St} {o : Nat} {s : Sn} {r : Nat} (k : Nat) (g : Good r s) (hS : S.get o = some (sr s)) : evF X6 AP (k + 4) 21 [pt o] S = some (.int .i64 (lost s), S) := by
  rw [evF_body (af := af21) rfl rfl rfl]
  have hrd : ∀ v i m, S.rd o v i m = rdO (sr s) v i m := rd_of hS
  have := g.ll; have := g.few; have := g.c0; have := g.cr; have := g.fl
  by_cases c0 : s.l < 0
  · simp -implicitDefEqProofs -dsimp (maxSteps := 10000000) only [af21, ops_nil, ops_some, ops_none, oper_none, oper_some, gd_tt, gd_ff, gd_tf, gd_ft, ↓any_op, ↓any_call, ↓any_callV, ↓any_invoke, xo_t, xo_c, args_nil, args_cons, bin_add, bin_sub, bin_mul, bin_quo, bin_rem, bin_and, bin_or, bin_xor, bin_andNot, bin_eql, bin_neq, bin_lss, bin_leq, bin_gtr, bin_geq, bin_shl, bin_shr, bin_bools, bin_strs, bin_ptrs, bin_slices, bin_aggs, ↓Option.bind_some, ↓Option.map_some, ↓cond_true, ↓cond_false, evC, evOp, XO.lit, setArgs, Tr.tabG, Tr.tabS, Tr.tabL, Tr.get_lf, Option.bind_some, Option.map_some, cond_true, cond_false, maxI, maxFrom, minI, minFrom, aConv, aBinE, aEq, eqScal, aUn, evRes, fin, oneOf, if_true, if_false, callee, evF_eq, withX_some, withX_none, addX, X0, sN0, sN1, sN2, sN3, sN4, reduceCtorEq, Nat.reduceEqDiff, and_self, decide_true, decide_false, beq_true, beq_false, Bool.not_true, Bool.not_false, List.getElem?_cons_zero, List.getElem?_cons_succ, beq_self_eq_true, gt_iff_lt, ble_dec, beq_dec, List.head?_cons, AV.undef, eq_self, ne_eq, not_true_eq_false, not_false_eq_true, Int.reduceLT, Int.reduceLE, Int.reduceToNat, Int.reduceEq, Int.reduceNeg, Nat.reduceAdd, Nat.reduceLT, Nat.reduceLeDiff, Nat.reduceMul, Nat.reduceSub, ↓evDraw_nil, putD, evDraw, trace, List.all_cons, List.all_nil, chk, stAt, again, sameV, sameA, Bool.and_self, Bool.and_true, decide_eq_true_eq, List.getElem?_nil, AV.cells, AV.tup, Bool.true_and, true_and, and_true, List.drop_nil, List.append_nil, rd_put, rd_alloc, rdO, St.get_put, St.get_alloc, St.next_put, St.next_alloc, St.wr, Bool.and_self, Bool.and_true, List.length_cons, List.length_nil, List.take_succ_cons, List.take_zero, List.drop_succ_cons, List.drop_zero, List.cons_append, List.nil_append, Nat.zero_add, Nat.add_zero, Nat.reduceMul, pt, hrd, sr, c0, lost]
  · have f0 := g.f0 (by omega)
    have w1 : IntKind.i64.wrap (s.l - s.f) = s.l - s.f := w64_id (by omega) (by omega)
    have w2 : IntKind.i64.wrap (s.l - s.f + 1) = s.l - s.f + 1 := w64_id (by omega) (by omega)
    have w3 : IntKind.i64.wrap (s.l - s.f + 1 - s.c) = s.l - s.f + 1 - s.c := w64_id (by omega) (by omega)
    simp -implicitDefEqProofs -dsimp (maxSteps := 10000000) only [af21, ops_nil, ops_some, ops_none, oper_none, oper_some, gd_tt, gd_ff, gd_tf, gd_ft, ↓any_op, ↓any_call, ↓any_callV, ↓any_invoke, xo_t, xo_c, args_nil, args_cons, bin_add, bin_sub, bin_mul, bin_quo, bin_rem, bin_and, bin_or, bin_xor, bin_andNot, bin_eql, bin_neq, bin_lss, bin_leq, bin_gtr, bin_geq, bin_shl, bin_shr, bin_bools, bin_strs, bin_ptrs, bin_slices, bin_aggs, ↓Option.bind_some, ↓Option.map_some, ↓cond_true, ↓cond_false, evC, evOp, XO.lit, setArgs, Tr.tabG, Tr.tabS, Tr.tabL, Tr.get_lf, Option.bind_some, Option.map_some, cond_true, cond_false, maxI, maxFrom, minI, minFrom, aConv, aBinE, aEq, eqScal, aUn, evRes, fin, oneOf, if_true, if_false, callee, evF_eq, withX_some, withX_none, addX, X0, sN0, sN1, sN2, sN3, sN4, reduceCtorEq, Nat.reduceEqDiff, and_self, decide_true, decide_false, beq_true, beq_false, Bool.not_true, Bool.not_false, List.getElem?_cons_zero, List.getElem?_cons_succ, beq_self_eq_true, gt_iff_lt, ble_dec, beq_dec, List.head?_cons, AV.undef, eq_self, ne_eq, not_true_eq_false, not_false_eq_true, Int.reduceLT, Int.reduceLE, Int.reduceToNat, Int.reduceEq, Int.reduceNeg, Nat.reduceAdd, Nat.reduceLT, Nat.reduceLeDiff, Nat.reduceMul, Nat.reduceSub, ↓evDraw_nil, putD, evDraw, trace, List.all_cons, List.all_nil, chk, stAt, again, sameV, sameA, Bool.and_self, Bool.and_true, decide_eq_true_eq, List.getElem?_nil, AV.cells, AV.tup, Bool.true_and, true_and, and_true, List.drop_nil, List.append_nil, rd_put, rd_alloc, rdO, St.get_put, St.get_alloc, St.next_put, St.next_alloc, St.wr, Bool.and_self, Bool.and_true, List.length_cons, List.length_nil, List.take_succ_cons, List.take_zero, List.drop_succ_cons, List.drop_zero, List.cons_append, List.nil_append, Nat.zero_add, Nat.add_zero, Nat.reduceMul, pt, hrd, sr, c0, w1, w2, w3, lost]
def s0 : Sn := ⟨-1, -1, 0, 0⟩
theorem good0 : Good 0 s0 := ⟨by decide, fun _ => ⟨rfl, rfl, rfl⟩, fun h => absurd h (by decide), by decide, by decide, by decide, by decide, by decide, by decide, fun h => absurd h (by decide)⟩
theorem T13 (S : St) (k : Nat) : evF X6 AP (k + 4) 13 [] S = some (pt S.next, S.alloc (sn s0)) := by
  rw [evF_body (af := af13) rfl rfl rfl]
  rfl
theorem T19 (S : St) (k : Nat) : evF X6 AP (k + 4) 19 [] S = some (pt S.next, S.alloc (sr s0)) := by
  rw [evF_body (af := af19) rfl rfl rfl]
  rfl
structure I9 (p : Option (Nat × Nat × Nat)) (len e : Nat) (Sb : St) (o : Nat) (a : Nat) (T : Tm) (S : St) : Prop where
  t0 : T.get 0 = some (.slice p len e none)
  t3 : T.get 3 = some (pt o)
  t4 : T.get 4 = some (pt (o + 1))
  ext : Ext Sb S
  ho : Sb.next ≤ o
  more : ∃ (s : Sn) (i : Int), T.get 5 = some (.int .i64 i) ∧ S.get o = some (sn s) ∧ S.get (o + 1) = some (sr s) ∧ 0 ≤ i ∧ (a : Int) = 200 - i ∧ Good i.toNat s
set_option maxHeartbeats 4000000 in
theorem play9 {S : St} {p : Option (Nat × Nat × Nat)} {len e : Nat} (k : Nat) (h : Sl S p len [.int .u16]) (hez : p = none ∨ e = 1) :
    ∃ S', evF X6 AP (k + 300) 9 [.slice p len e none] S = some (.bool true, S') ∧ Ext S S' := by
  have hm := h.max
  suffices hs : ∃ v S', evF X6 AP (k + 300) 9 [.slice p len e none] S = some (v, S') ∧ (v = .bool true ∧ Ext S S') by
    obtain ⟨v, S', h1, rfl, h2⟩ := hs; exact ⟨S', h1, h2⟩
  refine evF_goes (af := af9) (k := k + 299) rfl rfl rfl ?_
  simp -implicitDefEqProofs -dsimp (maxSteps := 10000000) only [af9, ↓goes_loop, ↓goes_seq, ↓goes_reg, ↓goes_dreg, ↓goes_cond, ↓goes_block, ↓goes_skip, ↓goes_exit, ↓goes_ret, after_some, br_true, br_false, ↓then_normal, ↓then_exit, ↓then_ret, ↓blk_normal, ↓blk_exit, ↓blk_ret, ↓blk_other, ops_nil, ops_some, ops_none, oper_none, oper_some, gd_tt, gd_ff, gd_tf, gd_ft, ↓any_op, ↓any_call, ↓any_callV, ↓any_invoke, xo_t, xo_c, args_nil, args_cons, bin_add, bin_sub, bin_mul, bin_quo, bin_rem, bin_and, bin_or, bin_xor, bin_andNot, bin_eql, bin_neq, bin_lss, bin_leq, bin_gtr, bin_geq, bin_shl, bin_shr, bin_bools, bin_strs, bin_ptrs, bin_slices, bin_aggs, ↓Option.bind_some, ↓Option.map_some, ↓cond_true, ↓cond_false, evC, evOp, XO.lit, setArgs, Tr.tabG, Tr.tabS, Tr.tabL, Tr.get_lf, Option.bind_some, Option.map_some, cond_true, cond_false, maxI, maxFrom, minI, minFrom, aConv, aBinE, aEq, eqScal, aUn, evRes, fin, oneOf, if_true, if_false, callee, reduceCtorEq, Nat.reduceEqDiff, and_self, decide_true, decide_false, beq_true, beq_false, Bool.not_true, Bool.not_false, List.getElem?_cons_zero, List.getElem?_cons_succ, beq_self_eq_true, gt_iff_lt, ble_dec, beq_dec, List.head?_cons, AV.undef, eq_self, ne_eq, not_true_eq_false, not_false_eq_true, Int.reduceLT, Int.reduceLE, Int.reduceToNat, Int.reduceEq, Int.reduceNeg, Nat.reduceAdd, Nat.reduceLT, Nat.reduceLeDiff, Nat.reduceMul, Nat.reduceSub, AV.cells, AV.tup, Bool.true_and, true_and, and_true, List.drop_nil, List.append_nil, rd_put, rd_alloc, rdO, St.get_put, St.get_alloc, St.next_put, St.next_alloc, St.wr, Bool.and_self, Bool.and_true, List.length_cons, List.length_nil, List.take_succ_cons, List.take_zero, List.drop_succ_cons, List.drop_zero, List.cons_append, List.nil_append, Nat.zero_add, Nat.add_zero, Nat.reduceMul, T13, T19]
  refine .while (I9 p len e S S.next) id 200 ?_ (by show 200 < k + 299; omega) ?_
  · refine ⟨rfl, rfl, rfl, (Ext.alloc _ _).then_alloc _, Nat.le_refl _, s0, 0, rfl, ?_, ?_, Int.le_refl _, rfl, good0⟩
    · simp only [St.get_alloc, St.next_alloc, Nat.left_eq_add, Nat.succ_ne_self, if_false, if_true, Nat.one_ne_zero]
    · simp only [St.get_alloc, St.next_alloc, if_true]
  · rintro a T S1 ⟨t0, t3, t4, he, ho, s, i, t5, hs, hr, i0, ha, g⟩
    have hfew := g.few
    by_cases c : i < len ∧ i < 200
    · obtain ⟨c1, c2⟩ := c
      obtain ⟨ob, v, j, rfl, hob⟩ := h.at_ (by omega)
      obtain rfl : e = 1 := hez.resolve_left (by simp)
      obtain ⟨z, hz0, wz⟩ := h.int i0 c1
      have hz2 := wf_u16 wz
      have hz : S1.rd ob v (j + i.toNat * 1) 1 = some [.int .u16 z] := by rw [he.rd hob]; exact hz0
      have hix : ixOf (.int .i64 i) len = some i.toNat := ix_ok i0 c1
      have w3 : IntKind.i64.wrap (i + 1) = i + 1 := w64_id (by omega) (by omega)
      obtain ⟨S2, e14, u2⟩ := T14 (S := S1) (n := z) (k + 295) g (by omega) (by omega) (by omega) hs
      have hx2 : Ext S S2 := u2.ext he (Nat.le_refl _)
      have hz' : S2.rd ob v (j + i.toNat * 1) 1 = some [.int .u16 z] := by rw [hx2.rd hob]; exact hz0
      have hr2 : S2.get (S.next + 1) = some (sr s) := by rw [u2.else (by omega)]; exact hr
      obtain ⟨S3, e20, u3⟩ := T20 (S := S2) (n := z) (k + 295) g (by omega) (by omega) (by omega) hr2
      have hx3 : Ext S S3 := u3.ext hx2 (by omega)
      have g' := add_good g (by omega) (by omega) (by omega) (n := z)
      obtain ⟨x, hx⟩ : ∃ x, ext 65536 s.l z = x := ⟨_, rfl⟩
      rw [hx] at e14 e20 u2 u3 g'
      have hs3 : S3.get S.next = some (sn (addS s x)) := by rw [u3.else (by omega)]; exact u2.same
      have hr3 : S3.get (S.next + 1) = some (sr (addS s x)) := u3.same
      have hrd : ∀ v i m, S3.rd (S.next + 1) v i m = rdO (sr (addS s x)) v i m := rd_of hr3
      have e15 := T15 (k + 295) hs3
      have e16 := T16 (k + 295) g' hs3
      have e21 := T21 (k + 295) g' hr3
      simp -implicitDefEqProofs -dsimp (maxSteps := 10000000) only [af9_l0, ↓goes_loop, ↓goes_seq, ↓goes_reg, ↓goes_dreg, ↓goes_cond, ↓goes_block, ↓goes_skip, ↓goes_exit, ↓goes_ret, after_some, br_true, br_false, ↓then_normal, ↓then_exit, ↓then_ret, ↓blk_normal, ↓blk_exit, ↓blk_ret, ↓blk_other, ops_nil, ops_some, ops_none, oper_none, oper_some, gd_tt, gd_ff, gd_tf, gd_ft, ↓any_op, ↓any_call, ↓any_callV, ↓any_invoke, xo_t, xo_c, args_nil, args_cons, bin_add, bin_sub, bin_mul, bin_quo, bin_rem, bin_and, bin_or, bin_xor, bin_andNot, bin_eql, bin_neq, bin_lss, bin_leq, bin_gtr, bin_geq, bin_shl, bin_shr, bin_bools, bin_strs, bin_ptrs, bin_slices, bin_aggs, ↓Option.bind_some, ↓Option.map_some, ↓cond_true, ↓cond_false, evC, evOp, XO.lit, setArgs, Tr.get_set, Option.bind_some, Option.map_some, cond_true, cond_false, maxI, maxFrom, minI, minFrom, aConv, aBinE, aEq, eqScal, aUn, evRes, fin, oneOf, if_true, if_false, callee, reduceCtorEq, Nat.reduceEqDiff, and_self, decide_true, decide_false, beq_true, beq_false, Bool.not_true, Bool.not_false, List.getElem?_cons_zero, List.getElem?_cons_succ, beq_self_eq_true, gt_iff_lt, ble_dec, beq_dec, List.head?_cons, AV.undef, eq_self, ne_eq, not_true_eq_false, not_false_eq_true, Int.reduceLT, Int.reduceLE, Int.reduceToNat, Int.reduceEq, Int.reduceNeg, Nat.reduceAdd, Nat.reduceLT, Nat.reduceLeDiff, Nat.reduceMul, Nat.reduceSub, ↓evDraw_nil, putD, evDraw, trace, List.all_cons, List.all_nil, chk, stAt, again, sameV, sameA, Bool.and_self, Bool.and_true, decide_eq_true_eq, List.getElem?_nil, AV.cells, AV.tup, Bool.true_and, true_and, and_true, List.drop_nil, List.append_nil, rd_put, rd_alloc, rdO, St.get_put, St.get_alloc, St.next_put, St.next_alloc, St.wr, Bool.and_self, Bool.and_true, List.length_cons, List.length_nil, List.take_succ_cons, List.take_zero, List.drop_succ_cons, List.drop_zero, List.cons_append, List.nil_append, Nat.zero_add, Nat.add_zero, Nat.reduceMul, t0, t3, t4, t5, c1, c2, hm, hix, hz, hz', w3, e14, e20, e15, e16, e21, hrd, pt, sr, bne_self_eq_false, Option.isNone_some]
      refine ⟨a - 1, ⟨?_, ?_, ?_, hx3, Nat.le_refl _, addS s x, i + 1, ?_, hs3, hr3, by omega, by omega, ?_⟩, by simp only [id]; omega⟩
      · simp only [Tr.get_set, Nat.reduceEqDiff, if_false, if_true, t0]
      · simp only [Tr.get_set, Nat.reduceEqDiff, if_false, if_true, t3]
      · simp only [Tr.get_set, Nat.reduceEqDiff, if_false, if_true, t4]
      · simp only [Tr.get_set, Nat.reduceEqDiff, if_false, if_true]
      · rw [show (i + 1).toNat = i.toNat + 1 by omega]
        exact g'
    · have hrd : ∀ v i m, S1.rd (S.next + 1) v i m = rdO (sr s) v i m := rd_of hr
      have e15 := T15 (k + 295) hs
      have e16 := T16 (k + 295) g hs
      have e21 := T21 (k + 295) g hr
      by_cases c1 : i < len
      · have c2 : ¬ i < 200 := by omega
        simp -implicitDefEqProofs -dsimp (maxSteps := 10000000) only [af9_l0, ↓goes_loop, ↓goes_seq, ↓goes_reg, ↓goes_dreg, ↓goes_cond, ↓goes_block, ↓goes_skip, ↓goes_exit, ↓goes_ret, after_some, br_true, br_false, ↓then_normal, ↓then_exit, ↓then_ret, ↓blk_normal, ↓blk_exit, ↓blk_ret, ↓blk_other, ops_nil, ops_some, ops_none, oper_none, oper_some, gd_tt, gd_ff, gd_tf, gd_ft, ↓any_op, ↓any_call, ↓any_callV, ↓any_invoke, xo_t, xo_c, args_nil, args_cons, bin_add, bin_sub, bin_mul, bin_quo, bin_rem, bin_and, bin_or, bin_xor, bin_andNot, bin_eql, bin_neq, bin_lss, bin_leq, bin_gtr, bin_geq, bin_shl, bin_shr, bin_bools, bin_strs, bin_ptrs, bin_slices, bin_aggs, ↓Option.bind_some, ↓Option.map_some, ↓cond_true, ↓cond_false, evC, evOp, XO.lit, setArgs, Tr.get_set, Option.bind_some, Option.map_some, cond_true, cond_false, maxI, maxFrom, minI, minFrom, aConv, aBinE, aEq, eqScal, aUn, evRes, fin, oneOf, if_true, if_false, callee, reduceCtorEq, Nat.reduceEqDiff, and_self, decide_true, decide_false, beq_true, beq_false, Bool.not_true, Bool.not_false, List.getElem?_cons_zero, List.getElem?_cons_succ, beq_self_eq_true, gt_iff_lt, ble_dec, beq_dec, List.head?_cons, AV.undef, eq_self, ne_eq, not_true_eq_false, not_false_eq_true, Int.reduceLT, Int.reduceLE, Int.reduceToNat, Int.reduceEq, Int.reduceNeg, Nat.reduceAdd, Nat.reduceLT, Nat.reduceLeDiff, Nat.reduceMul, Nat.reduceSub, ↓evDraw_nil, putD, evDraw, trace, List.all_cons, List.all_nil, chk, stAt, again, sameV, sameA, Bool.and_self, Bool.and_true, decide_eq_true_eq, List.getElem?_nil, AV.cells, AV.tup, Bool.true_and, true_and, and_true, List.drop_nil, List.append_nil, rd_put, rd_alloc, rdO, St.get_put, St.get_alloc, St.next_put, St.next_alloc, St.wr, Bool.and_self, Bool.and_true, List.length_cons, List.length_nil, List.take_succ_cons, List.take_zero, List.drop_succ_cons, List.drop_zero, List.cons_append, List.nil_append, Nat.zero_add, Nat.add_zero, Nat.reduceMul, t0, t3, t4, t5, c1, c2, hm, e15, e16, e21, hrd, sr, Option.isNone_some]
        exact ⟨_, _, rfl, rfl, he⟩
      · simp -implicitDefEqProofs -dsimp (maxSteps := 10000000) only [af9_l0, ↓goes_loop, ↓goes_seq, ↓goes_reg, ↓goes_dreg, ↓goes_cond, ↓goes_block, ↓goes_skip, ↓goes_exit, ↓goes_ret, after_some, br_true, br_false, ↓then_normal, ↓then_exit, ↓then_ret, ↓blk_normal, ↓blk_exit, ↓blk_ret, ↓blk_other, ops_nil, ops_some, ops_none, oper_none, oper_some, gd_tt, gd_ff, gd_tf, gd_ft, ↓any_op, ↓any_call, ↓any_callV, ↓any_invoke, xo_t, xo_c, args_nil, args_cons, bin_add, bin_sub, bin_mul, bin_quo, bin_rem, bin_and, bin_or, bin_xor, bin_andNot, bin_eql, bin_neq, bin_lss, bin_leq, bin_gtr, bin_geq, bin_shl, bin_shr, bin_bools, bin_strs, bin_ptrs, bin_slices, bin_aggs, ↓Option.bind_some, ↓Option.map_some, ↓cond_true, ↓cond_false, evC, evOp, XO.lit, setArgs, Tr.get_set, Option.bind_some, Option.map_some, cond_true, cond_false, maxI, maxFrom, minI, minFrom, aConv, aBinE, aEq, eqScal, aUn, evRes, fin, oneOf, if_true, if_false, callee, reduceCtorEq, Nat.reduceEqDiff, and_self, decide_true, decide_false, beq_true, beq_false, Bool.not_true, Bool.not_false, List.getElem?_cons_zero, List.getElem?_cons_succ, beq_self_eq_true, gt_iff_lt, ble_dec, beq_dec, List.head?_cons, AV.undef, eq_self, ne_eq, not_true_eq_false, not_false_eq_true, Int.reduceLT, Int.reduceLE, Int.reduceToNat, Int.reduceEq, Int.reduceNeg, Nat.reduceAdd, Nat.reduceLT, Nat.reduceLeDiff, Nat.reduceMul, Nat.reduceSub, ↓evDraw_nil, putD, evDraw, trace, List.all_cons, List.all_nil, chk, stAt, again, sameV, sameA, Bool.and_self, Bool.and_true, decide_eq_true_eq, List.getElem?_nil, AV.cells, AV.tup, Bool.true_and, true_and, and_true, List.drop_nil, List.append_nil, rd_put, rd_alloc, rdO, St.get_put, St.get_alloc, St.next_put, St.next_alloc, St.wr, Bool.and_self, Bool.and_true, List.length_cons, List.length_nil, List.take_succ_cons, List.take_zero, List.drop_succ_cons, List.drop_zero, List.cons_append, List.nil_append, Nat.zero_add, Nat.add_zero, Nat.reduceMul, t0, t3, t4, t5, c1, hm, e15, e16, e21, hrd, sr, Option.isNone_some]
        exact ⟨_, _, rfl, rfl, he⟩
/-- known() and same(), any fuel. -/
theorem x6_10 (k : Nat) (S : St) : evF X6 AP (k + 1) 10 [] S = some (.bool true, S) := rfl
theorem x6_8 (k : Nat) (S : St) (a n m : Int) : evF X6 AP (k + 1) 8 [.int .i64 a, .int .u16 n, .int .u32 m] S = some (.bool true, S) := rfl
theorem mask15 (x : Int) : Go.bits .and .i64 x 15 = x % 16 := and_i64 4 (by decide) x
theorem mask40 (x : Int) : Go.bits .and .i64 x 1099511627775 = x % 1099511627776 := and_i64 40 (by decide) x
structure I4 (last n m : Int) (pl : AV) (p : Option (Nat × Nat × Nat)) (len : Nat) (Sb : St) (a : Nat) (T : Tm) (S : St) : Prop where
  t0 : T.get 0 = some (.int .i64 last)
  t1 : T.get 1 = some (.int .u16 n)
  t2 : T.get 2 = some (.int .u32 m)
  t3 : T.get 3 = some pl
  t4 : T.get 4 = some (.slice p len 1 none)
  ext : Ext Sb S
  more : ∃ (i at_ : Int) (q : Option (Nat × Nat × Nat)) (e : Nat) (c : List AV), T.get 13 = some (.int .i64 i) ∧ T.get 12 = some (.int .i64 at_) ∧ T.get 11 = some (.slice q i.toNat e none) ∧ Vec S q i.toNat 1 e c ∧ (∀ o v j, q = some (o, v, j) → Sb.next ≤ o) ∧
    (∀ j, j < i.toNat → Scs [.int .u16] ((c.drop (j * 1)).take 1)) ∧ 0 ≤ i ∧ i ≤ 150 ∧ (a : Int) = 150 - i ∧ -5 * i ≤ at_ ∧ at_ ≤ 65535 + 15 * i
set_option maxHeartbeats 4000000 in
theorem ev4 (k : Nat) {last n m : Int} (wl : (Lit.int .i64 last).wf = true) (wn : (Lit.int .u16 n).wf = true) (wm : (Lit.int .u32 m).wf = true) {S : St} {pl p : Option (Nat × Nat × Nat)} {ll len : Nat} (hl : Sl S pl ll [.int .u16]) (h : Sl S p len [.int .i64]) :
    ∃ S', evF X6 AP (k + 1000) 4 [.int .i64 last, .int .u16 n, .int .u32 m, .slice pl ll 1 none, .slice p len 1 none] S = some (.bool true, S') := by
  have hm := h.max
  have hn := wf_u16 wn
  have w0 : IntKind.i64.wrap n = n := w64_id (by omega) (by omega)
  suffices hs : ∃ v S', evF X6 AP (k + 1000) 4 [.int .i64 last, .int .u16 n, .int .u32 m, .slice pl ll 1 none, .slice p len 1 none] S = some (v, S') ∧ v = .bool true by
    obtain ⟨v, S', h1, rfl⟩ := hs; exact ⟨S', h1⟩
  refine evF_goes (af := af4) (k := k + 999) rfl rfl rfl ?_
  simp -implicitDefEqProofs -dsimp (maxSteps := 10000000) only [af4, ↓goes_loop, ↓goes_seq, ↓goes_reg, ↓goes_dreg, ↓goes_cond, ↓goes_block, ↓goes_skip, ↓goes_exit, ↓goes_ret, after_some, br_true, br_false, ↓then_normal, ↓then_exit, ↓then_ret, ↓blk_normal, ↓blk_exit, ↓blk_ret, ↓blk_other, ops_nil, ops_some, ops_none, oper_none, oper_some, gd_tt, gd_ff, gd_tf, gd_ft, ↓any_op, ↓any_call, ↓any_callV, ↓any_invoke, xo_t, xo_c, args_nil, args_cons, bin_add, bin_sub, bin_mul, bin_quo, bin_rem, bin_and, bin_or, bin_xor, bin_andNot, bin_eql, bin_neq, bin_lss, bin_leq, bin_gtr, bin_geq, bin_shl, bin_shr, bin_bools, bin_strs, bin_ptrs, bin_slices, bin_aggs, ↓Option.bind_some, ↓Option.map_some, ↓cond_true, ↓cond_false, evC, evOp, XO.lit, setArgs, Tr.tabG, Tr.tabS, Tr.tabL, Tr.get_lf, Option.bind_some, Option.map_some, cond_true, cond_false, maxI, maxFrom, minI, minFrom, aConv, aBinE, aEq, eqScal, aUn, evRes, fin, oneOf, if_true, if_false, callee, reduceCtorEq, Nat.reduceEqDiff, and_self, decide_true, decide_false, beq_true, beq_false, Bool.not_true, Bool.not_false, List.getElem?_cons_zero, List.getElem?_cons_succ, beq_self_eq_true, gt_iff_lt, ble_dec, beq_dec, List.head?_cons, AV.undef, eq_self, ne_eq, not_true_eq_false, not_false_eq_true, Int.reduceLT, Int.reduceLE, Int.reduceToNat, Int.reduceEq, Int.reduceNeg, Nat.reduceAdd, Nat.reduceLT, Nat.reduceLeDiff, Nat.reduceMul, Nat.reduceSub, AV.cells, AV.tup, Bool.true_and, true_and, and_true, List.drop_nil, List.append_nil, rd_put, rd_alloc, rdO, St.get_put, St.get_alloc, St.next_put, St.next_alloc, St.wr, Bool.and_self, Bool.and_true, List.length_cons, List.length_nil, List.take_succ_cons, List.take_zero, List.drop_succ_cons, List.drop_zero, List.cons_append, List.nil_append, Nat.zero_add, Nat.add_zero, Nat.reduceMul, w0]
  refine .while (I4 last n m (.slice pl ll 1 none) p len S) id 150 ?_ (by show 150 < k + 999; omega) ?_
  · refine ⟨rfl, rfl, rfl, rfl, rfl, .refl _, 0, n, none, 0, [], rfl, rfl, rfl, .nil _ _ _, ?_, ?_, by omega, by omega, rfl, by omega, by omega⟩
    · intro o v j e; cases e
    · intro j hj; exact absurd hj (Nat.not_lt_zero _)
  · rintro a T S1 ⟨t0, t1, t2, t3, t4, he, i, at_, q, e, c, t13, t12, t11, hv, ho, hsc, i0, i1, ha, a0, a1⟩
    by_cases cc : i < len ∧ i < 150
    · obtain ⟨c1, c2⟩ := cc
      obtain ⟨ob, v, j, rfl, hob⟩ := h.at_ (by omega)
      obtain ⟨z, hz0, wz⟩ := h.int i0 c1
      have hz : S1.rd ob v (j + i.toNat * 1) 1 = some [.int .i64 z] := by rw [he.rd hob]; exact hz0
      have hix : ixOf (.int .i64 i) len = some i.toNat := ix_ok i0 c1
      have w1 : IntKind.i64.wrap (at_ + z % 16) = at_ + z % 16 := w64_id (by omega) (by omega)
      have w2 : IntKind.i64.wrap (at_ + z % 16 - 5) = at_ + z % 16 - 5 := w64_id (by omega) (by omega)
      have w3 : IntKind.i64.wrap (i + 1) = i + 1 := w64_id (by omega) (by omega)
      obtain ⟨y, hy⟩ : ∃ y, at_ + z % 16 - 5 = y := ⟨_, rfl⟩
      have hsx : Scs [.int .u16] [.int .u16 (y % 65536)] := ⟨⟨rfl, mk_u16 (by omega) (by omega)⟩, trivial⟩
      have hve : Vec (S1.alloc (.cells [.int .u16 (y % 65536)] 0 0 true)) q i.toNat 1 e c := hv.ext (.alloc _ _)
      obtain ⟨q', S2, hap, hv2, hg2, hq2⟩ := hve.append (bytes := 2) (xs := [.int .u16 (y % 65536)]) (n := 1) rfl (by decide) (by omega)
      have hrd : ∀ v i m, (S1.alloc (.cells [.int .u16 (y % 65536)] 0 0 true)).rd S1.next v i m = rdO (.cells [.int .u16 (y % 65536)] 0 0 true) v i m := fun v i m => by rw [rd_alloc, if_pos rfl]
      rw [hy] at w2
      simp -implicitDefEqProofs -dsimp (maxSteps := 10000000) only [af4_l0, ↓goes_loop, ↓goes_seq, ↓goes_reg, ↓goes_dreg, ↓goes_cond, ↓goes_block, ↓goes_skip, ↓goes_exit, ↓goes_ret, after_some, br_true, br_false, ↓then_normal, ↓then_exit, ↓then_ret, ↓blk_normal, ↓blk_exit, ↓blk_ret, ↓blk_other, ops_nil, ops_some, ops_none, oper_none, oper_some, gd_tt, gd_ff, gd_tf, gd_ft, ↓any_op, ↓any_call, ↓any_callV, ↓any_invoke, xo_t, xo_c, args_nil, args_cons, bin_add, bin_sub, bin_mul, bin_quo, bin_rem, bin_and, bin_or, bin_xor, bin_andNot, bin_eql, bin_neq, bin_lss, bin_leq, bin_gtr, bin_geq, bin_shl, bin_shr, bin_bools, bin_strs, bin_ptrs, bin_slices, bin_aggs, ↓Option.bind_some, ↓Option.map_some, ↓cond_true, ↓cond_false, evC, evOp, XO.lit, setArgs, Tr.get_set, Option.bind_some, Option.map_some, cond_true, cond_false, maxI, maxFrom, minI, minFrom, aConv, aBinE, aEq, eqScal, aUn, evRes, fin, oneOf, if_true, if_false, callee, reduceCtorEq, Nat.reduceEqDiff, and_self, decide_true, decide_false, beq_true, beq_false, Bool.not_true, Bool.not_false, List.getElem?_cons_zero, List.getElem?_cons_succ, beq_self_eq_true, gt_iff_lt, ble_dec, beq_dec, List.head?_cons, AV.undef, eq_self, ne_eq, not_true_eq_false, not_false_eq_true, Int.reduceLT, Int.reduceLE, Int.reduceToNat, Int.reduceEq, Int.reduceNeg, Nat.reduceAdd, Nat.reduceLT, Nat.reduceLeDiff, Nat.reduceMul, Nat.reduceSub, AV.cells, AV.tup, Bool.true_and, true_and, and_true, List.drop_nil, List.append_nil, rd_put, rd_alloc, rdO, St.get_put, St.get_alloc, St.next_put, St.next_alloc, St.wr, Bool.and_self, Bool.and_true, List.length_cons, List.length_nil, List.take_succ_cons, List.take_zero, List.drop_succ_cons, List.drop_zero, List.cons_append, List.nil_append, Nat.zero_add, Nat.add_zero, Nat.reduceMul, aFill, evParts, rep, List.replicate_succ, List.replicate_zero, List.flatten_cons, List.flatten_nil, List.append_nil, newSl, newVar, t4, t11, t12, t13, c1, c2, hm, hix, hz, mask15, hy, w1, w2, w3, wrap_u16, hap]
      refine ⟨a - 1, ⟨?_, ?_, ?_, ?_, ?_, ?_, i + 1, y, q', 1, c ++ [.int .u16 (y % 65536)], ?_, ?_, ?_, ?_, ?_, ?_, by omega, by omega, by omega, by omega, by omega⟩, by simp only [id]; omega⟩
      · simp only [Tr.get_set, Nat.reduceEqDiff, if_false, if_true, t0]
      · simp only [Tr.get_set, Nat.reduceEqDiff, if_false, if_true, t1]
      · simp only [Tr.get_set, Nat.reduceEqDiff, if_false, if_true, t2]
      · simp only [Tr.get_set, Nat.reduceEqDiff, if_false, if_true, t3]
      · simp only [Tr.get_set, Nat.reduceEqDiff, if_false, if_true, t4]
      · exact ⟨Nat.le_trans (Nat.le_trans he.next (Nat.le_succ _)) hg2.next, fun o' h' => by
          have hn := he.next
          rw [hg2.old o' (by show o' < S1.next + 1; omega) (fun v' j' hq => by have := ho _ _ _ hq; omega), St.get_alloc, if_neg (by omega)]
          exact he.old o' h'⟩
      · simp only [Tr.get_set, Nat.reduceEqDiff, if_false, if_true]
      · simp only [Tr.get_set, Nat.reduceEqDiff, if_false, if_true]
      · simp only [Tr.get_set, Nat.reduceEqDiff, if_false, if_true, show (i + 1).toNat = i.toNat + 1 by omega]
      · rw [show (i + 1).toNat = i.toNat + 1 by omega]; exact hv2
      · intro o' v' j' hq
        rcases hq2 o' v' j' hq with hq | ⟨v2, j2, hq⟩
        · have := he.next
          have : S1.next + 1 ≤ o' := hq
          omega
        · exact ho _ _ _ hq
      · rw [show (i + 1).toNat = i.toNat + 1 by omega]; exact Scs_snoc (ks := [.int .u16]) hv.sz hsc hsx
    · have hsl : Sl S1 q i.toNat [.int .u16] := hv.sl (ks := [.int .u16]) (by omega) hsc
      obtain ⟨S2, h9, e2⟩ := play9 (k := k + 699) (hl.ext he) (.inr rfl)
      obtain ⟨S3, h9', e3⟩ := play9 (k := k + 699) (hsl.ext e2) hv.ez
      by_cases c1 : i < len
      · have c2 : ¬ i < 150 := by omega
        simp -implicitDefEqProofs -dsimp (maxSteps := 10000000) only [af4_l0, ↓goes_loop, ↓goes_seq, ↓goes_reg, ↓goes_dreg, ↓goes_cond, ↓goes_block, ↓goes_skip, ↓goes_exit, ↓goes_ret, after_some, br_true, br_false, ↓then_normal, ↓then_exit, ↓then_ret, ↓blk_normal, ↓blk_exit, ↓blk_ret, ↓blk_other, ops_nil, ops_some, ops_none, oper_none, oper_some, gd_tt, gd_ff, gd_tf, gd_ft, ↓any_op, ↓any_call, ↓any_callV, ↓any_invoke, xo_t, xo_c, args_nil, args_cons, bin_add, bin_sub, bin_mul, bin_quo, bin_rem, bin_and, bin_or, bin_xor, bin_andNot, bin_eql, bin_neq, bin_lss, bin_leq, bin_gtr, bin_geq, bin_shl, bin_shr, bin_bools, bin_strs, bin_ptrs, bin_slices, bin_aggs, ↓Option.bind_some, ↓Option.map_some, ↓cond_true, ↓cond_false, evC, evOp, XO.lit, setArgs, Tr.get_set, Option.bind_some, Option.map_some, cond_true, cond_false, maxI, maxFrom, minI, minFrom, aConv, aBinE, aEq, eqScal, aUn, evRes, fin, oneOf, if_true, if_false, callee, reduceCtorEq, Nat.reduceEqDiff, and_self, decide_true, decide_false, beq_true, beq_false, Bool.not_true, Bool.not_false, List.getElem?_cons_zero, List.getElem?_cons_succ, beq_self_eq_true, gt_iff_lt, ble_dec, beq_dec, List.head?_cons, AV.undef, eq_self, ne_eq, not_true_eq_false, not_false_eq_true, Int.reduceLT, Int.reduceLE, Int.reduceToNat, Int.reduceEq, Int.reduceNeg, Nat.reduceAdd, Nat.reduceLT, Nat.reduceLeDiff, Nat.reduceMul, Nat.reduceSub, AV.cells, AV.tup, Bool.true_and, true_and, and_true, List.drop_nil, List.append_nil, rd_put, rd_alloc, rdO, St.get_put, St.get_alloc, St.next_put, St.next_alloc, St.wr, Bool.and_self, Bool.and_true, List.length_cons, List.length_nil, List.take_succ_cons, List.take_zero, List.drop_succ_cons, List.drop_zero, List.cons_append, List.nil_append, Nat.zero_add, Nat.add_zero, Nat.reduceMul, t0, t1, t2, t3, t4, t11, t12, t13, c1, c2, hm, h9, h9', x6_8, x6_10]
        exact ⟨_, _, rfl, rfl⟩
      · simp -implicitDefEqProofs -dsimp (maxSteps := 10000000) only [af4_l0, ↓goes_loop, ↓goes_seq, ↓goes_reg, ↓goes_dreg, ↓goes_cond, ↓goes_block, ↓goes_skip, ↓goes_exit, ↓goes_ret, after_some, br_true, br_false, ↓then_normal, ↓then_exit, ↓then_ret, ↓blk_normal, ↓blk_exit, ↓blk_ret, ↓blk_other, ops_nil, ops_some, ops_none, oper_none, oper_some, gd_tt, gd_ff, gd_tf, gd_ft, ↓any_op, ↓any_call, ↓any_callV, ↓any_invoke, xo_t, xo_c, args_nil, args_cons, bin_add, bin_sub, bin_mul, bin_quo, bin_rem, bin_and, bin_or, bin_xor, bin_andNot, bin_eql, bin_neq, bin_lss, bin_leq, bin_gtr, bin_geq, bin_shl, bin_shr, bin_bools, bin_strs, bin_ptrs, bin_slices, bin_aggs, ↓Option.bind_some, ↓Option.map_some, ↓cond_true, ↓cond_false, evC, evOp, XO.lit, setArgs, Tr.get_set, Option.bind_some, Option.map_some, cond_true, cond_false, maxI, maxFrom, minI, minFrom, aConv, aBinE, aEq, eqScal, aUn, evRes, fin, oneOf, if_true, if_false, callee, reduceCtorEq, Nat.reduceEqDiff, and_self, decide_true, decide_false, beq_true, beq_false, Bool.not_true, Bool.not_false, List.getElem?_cons_zero, List.getElem?_cons_succ, beq_self_eq_true, gt_iff_lt, ble_dec, beq_dec, List.head?_cons, AV.undef, eq_self, ne_eq, not_true_eq_false, not_false_eq_true, Int.reduceLT, Int.reduceLE, Int.reduceToNat, Int.reduceEq, Int.reduceNeg, Nat.reduceAdd, Nat.reduceLT, Nat.reduceLeDiff, Nat.reduceMul, Nat.reduceSub, AV.cells, AV.tup, Bool.true_and, true_and, and_true, List.drop_nil, List.append_nil, rd_put, rd_alloc, rdO, St.get_put, St.get_alloc, St.next_put, St.next_alloc, St.wr, Bool.and_self, Bool.and_true, List.length_cons, List.length_nil, List.take_succ_cons, List.take_zero, List.drop_succ_cons, List.drop_zero, List.cons_append, List.nil_append, Nat.zero_add, Nat.add_zero, Nat.reduceMul, t0, t1, t2, t3, t4, t11, t12, t13, c1, hm, h9, h9', x6_8, x6_10]
        exact ⟨_, _, rfl, rfl⟩
theorem law4 {last n m : Int} (wl : (Lit.int .i64 last).wf = true) (wn : (Lit.int .u16 n).wf = true) (wm : (Lit.int .u32 m).wf = true) {pl p : Option (Nat × Nat × Nat)} {ll len : Nat} {xs ys : List AV} (hl : Arg pl 0 ll [.int .u16] xs) (h : Arg p 1 len [.int .i64] ys) :
    ∃ S', evF X6 AP (0 + 1000) 4 [.int .i64 last, .int .u16 n, .int .u32 m, .slice pl ll 1 none, .slice p len 1 none] ((S0.alloc (.cells xs 0 0 false)).alloc (.cells ys 0 0 false)) = some (.bool true, S') :=
  ev4 0 wl wn wm (.of_arg hl rfl (by show 0 < 2; decide)) (.of_arg h rfl (by show 1 < 2; decide))
end Go.Proofs.YtanloaedpalblaaA
