/- Chapter 15: what was seen: both programs add alike. -/
import Derived.Test.YtanloaedpalblaaSeqE
import Derived.Test.YtanloaedpalblaaAeS6
set_option linter.unusedVariables false
set_option linter.unusedSimpArgs false
set_option maxRecDepth 10000
namespace Go.Proofs.YtanloaedpalblaaA
open Go.RowKit
attribute [local congr] bind_congr1 map_congr1 cond_congr1 withX_congr after_congr br_congr gd_congr

def dup (s : Sn) (x : Int) : Prop := 63 < s.l - x ∨ seen s.M (s.l - x) = 1
instance (s : Sn) (x : Int) : Decidable (dup s x) := by unfold dup; infer_instance
def addS (s : Sn) (x : Int) : Sn :=
  if s.l < 0 then ⟨x, x, 1, 1⟩
  else if s.l < x then ⟨s.f, x, s.c + 1, orb s.M (x - s.l)⟩
  else if dup s x then s
  else ⟨s.f, s.l, if s.f ≤ x then s.c + 1 else s.c, ors s.M (s.l - x)⟩
def addB (s : Sn) (x : Int) : Bool := if s.l < 0 then true else if s.l < x then true else if dup s x then false else true
theorem Good.i64 {r : Nat} {s : Sn} (g : Good r s) : I64 s.l := by
  have := g.ll; have := g.few; have := g.none_
  refine ⟨?_, ?_⟩ <;> omega
theorem add_good {r : Nat} {s : Sn} {n : Int} (g : Good r s) (hr : r < 1000) (h0 : 0 ≤ n) (h1 : n < 65536) : Good (r + 1) (addS s (ext 65536 s.l n)) := by
  have := g.ll; have := g.none_; have hc := g.c0; have hcr := g.cr
  have hb := ext_bd h0 h1 (l := s.l) (by omega) (by omega)
  obtain ⟨x, hx⟩ : ∃ x, ext 65536 s.l n = x := ⟨_, rfl⟩
  rw [hx] at hb ⊢
  unfold addS
  by_cases c0 : s.l < 0
  · rw [if_pos c0]
    refine ⟨by omega, fun h => ?_, fun h => h, Int.le_refl _, ?_, ?_, ?_, (by show (0:Int) ≤ 1; decide), (by show (1:Int) < 18446744073709551616; decide), fun _ _ => ?_⟩ <;> dsimp only at * <;> first | omega | skip
    · rw [Int.sub_self]; decide
  · rw [if_neg c0]
    have f0 := g.f0 (by omega)
    have fl := g.fl
    by_cases c1 : s.l < x
    · rw [if_pos c1]
      have ho := orb_ok (d := x - s.l) g.m0 g.m1
      refine ⟨by omega, fun h => ?_, fun h => f0, ?_, ?_, ?_, ?_, ho.1, ho.2.1, fun _ h => ?_⟩ <;> dsimp only at * <;> first | omega | skip
      have := ho.2.2 (s.l - s.f) (by omega) (by omega) (by omega) (g.first (by omega) (by omega))
      rwa [show s.l - s.f + (x - s.l) = x - s.f by omega] at this
    · rw [if_neg c1]
      by_cases c2 : dup s x
      · rw [if_pos c2]
        exact ⟨by omega, g.none_, g.f0, g.fl, by omega, g.c0, by omega, g.m0, g.m1, g.first⟩
      · rw [if_neg c2]
        have ho := ors_ok (d := s.l - x) g.m0 g.m1
        refine ⟨by omega, fun h => ?_, fun h => f0, fl, ?_, ?_, ?_, ho.1, ho.2.1, fun _ h => ?_⟩ <;> dsimp only at * <;> first | omega | (split <;> omega) | skip
        exact ho.2.2 _ (g.first (by omega) h)
theorem ne_first {r : Nat} {s : Sn} {x : Int} (g : Good r s) (c0 : ¬ s.l < 0) (c1 : ¬ s.l < x) (c2 : ¬ dup s x) : ¬ x = s.f := by
  rintro rfl
  apply c2
  by_cases h : 63 < s.l - s.f
  · exact .inl h
  · exact .inr (seen_bit g.m0 g.m1 (by have := g.fl; omega) (by omega) (g.first (by omega) (by omega)))
set_option maxHeartbeats 4000000 in
theorem T14 {S : St} {o : Nat} {s : Sn} {r : Nat} {n : Int} (k : Nat) (g : Good r s) (hr : r < 1000) (h0 : 0 ≤ n) (h1 : n < 65536) (hS : S.get o = some (sn s)) :
    ∃ S', evF X6 AP (k + 4) 14 [pt o, .int .u16 n] S = some (.tuple [.int .i64 (ext 65536 s.l n), .bool (addB s (ext 65536 s.l n))], S') ∧ Upd S S' o (sn (addS s (ext 65536 s.l n))) := by
  rw [evF_body (af := af14) rfl rfl rfl]
  have hg := add_good g hr h0 h1
  have := g.ll; have := g.none_; have hc := g.c0; have hcr := g.cr; have hm0 := g.m0; have hm1 := g.m1
  have hb := ext_bd h0 h1 (l := s.l) (by omega) (by omega)
  obtain ⟨x, hx⟩ : ∃ x, ext 65536 s.l n = x := ⟨_, rfl⟩
  rw [hx] at hb hg ⊢
  have hrd : ∀ v i m, S.rd o v i m = rdO (sn s) v i m := rd_of hS
  have w1 : IntKind.i64.wrap (s.c + 1) = s.c + 1 := w64_id (by omega) (by omega)
  have fl := g.fl
  obtain ⟨f, l, c, M⟩ := s
  dsimp only at *
  by_cases c0 : l < 0
  · have c5 : ¬ x < x := by omega
    have hc0 : c = 0 := (g.none_ c0).2.2
    subst hc0
    refine ⟨_, by
      simp -implicitDefEqProofs -dsimp (maxSteps := 10000000) only [af14, ops_nil, ops_some, ops_none, oper_none, oper_some, gd_tt, gd_ff, gd_tf, gd_ft, gd_undef, ↓any_op, ↓any_call, ↓any_callV, ↓any_invoke, xo_t, xo_c, args_nil, args_cons, bin_add, bin_sub, bin_mul, bin_quo, bin_rem, bin_and, bin_or, bin_xor, bin_andNot, bin_eql, bin_neq, bin_lss, bin_leq, bin_gtr, bin_geq, bin_shl, bin_shr, bin_bools, bin_strs, bin_ptrs, bin_slices, bin_aggs, ↓Option.bind_some, ↓Option.map_some, ↓cond_true, ↓cond_false, evC, evOp, XO.lit, setArgs, Tr.tabG, Tr.tabS, Tr.tabL, Tr.get_lf, Option.bind_some, Option.map_some, cond_true, cond_false, maxI, maxFrom, minI, minFrom, aConv, aBinE, aEq, eqScal, aUn, evRes, fin, oneOf, if_true, if_false, callee, evF_eq, withX_some, withX_none, addX, X0, sN0, sN1, sN2, sN3, sN4, reduceCtorEq, Nat.reduceEqDiff, and_self, decide_true, decide_false, beq_true, beq_false, Bool.not_true, Bool.not_false, List.getElem?_cons_zero, List.getElem?_cons_succ, beq_self_eq_true, gt_iff_lt, ble_dec, beq_dec, List.head?_cons, AV.undef, eq_self, ne_eq, not_true_eq_false, not_false_eq_true, Int.reduceLT, Int.reduceLE, Int.reduceToNat, Int.reduceEq, Int.reduceNeg, Nat.reduceAdd, Nat.reduceLT, Nat.reduceLeDiff, Nat.reduceMul, Nat.reduceSub, ↓evDraw_nil, bir, putD, evDraw, trace, List.all_cons, List.all_nil, chk, stAt, again, sameV, sameL, sameA, AV.undef, Bool.and_self, Bool.and_true, decide_eq_true_eq, List.getElem?_nil, AV.cells, AV.tup, Bool.true_and, true_and, and_true, List.drop_nil, List.append_nil, rd_put, rd_alloc, rdO, St.get_put, St.get_alloc, St.next_put, St.next_alloc, St.wr, Bool.and_self, Bool.and_true, List.length_cons, List.length_nil, List.take_succ_cons, List.take_zero, List.drop_succ_cons, List.drop_zero, List.cons_append, List.nil_append, Nat.zero_add, Nat.add_zero, Nat.reduceMul, X6, X5, X4, X3, X2, X1, pt, hx, hrd, hS, sn, c0, Int.le_refl, w1, addB]
      exact rfl, ?_⟩
    refine (((((Upd.one S o _).put _).put _).put _)).cast ?_
    simp only [addS, if_pos c0, sn]
    rfl
  · have w2 : IntKind.i64.wrap (x - l) = x - l := w64_id (by omega) (by omega)
    have w3 : IntKind.i64.wrap (l - x) = l - x := w64_id (by omega) (by omega)
    have f0 : 0 ≤ f := g.f0 (by show 0 ≤ l; omega)
    by_cases c1 : l < x
    · have c4 : f ≤ x := by omega
      have cp : ¬ (x - l < 0) := by omega
      have e : min (if 64 < x - l then 64 else x - l).toNat 64 = min (x - l).toNat 64 := by split <;> omega
      by_cases c6 : 64 < x - l
      · rw [if_pos c6] at e
        refine ⟨_, by
          simp -implicitDefEqProofs -dsimp (maxSteps := 10000000) only [af14, ops_nil, ops_some, ops_none, oper_none, oper_some, gd_tt, gd_ff, gd_tf, gd_ft, gd_undef, ↓any_op, ↓any_call, ↓any_callV, ↓any_invoke, xo_t, xo_c, args_nil, args_cons, bin_add, bin_sub, bin_mul, bin_quo, bin_rem, bin_and, bin_or, bin_xor, bin_andNot, bin_eql, bin_neq, bin_lss, bin_leq, bin_gtr, bin_geq, bin_shl, bin_shr, bin_bools, bin_strs, bin_ptrs, bin_slices, bin_aggs, ↓Option.bind_some, ↓Option.map_some, ↓cond_true, ↓cond_false, evC, evOp, XO.lit, setArgs, Tr.tabG, Tr.tabS, Tr.tabL, Tr.get_lf, Option.bind_some, Option.map_some, cond_true, cond_false, maxI, maxFrom, minI, minFrom, aConv, aBinE, aEq, eqScal, aUn, evRes, fin, oneOf, if_true, if_false, callee, evF_eq, withX_some, withX_none, addX, X0, sN0, sN1, sN2, sN3, sN4, reduceCtorEq, Nat.reduceEqDiff, and_self, decide_true, decide_false, beq_true, beq_false, Bool.not_true, Bool.not_false, List.getElem?_cons_zero, List.getElem?_cons_succ, beq_self_eq_true, gt_iff_lt, ble_dec, beq_dec, List.head?_cons, AV.undef, eq_self, ne_eq, not_true_eq_false, not_false_eq_true, Int.reduceLT, Int.reduceLE, Int.reduceToNat, Int.reduceEq, Int.reduceNeg, Nat.reduceAdd, Nat.reduceLT, Nat.reduceLeDiff, Nat.reduceMul, Nat.reduceSub, ↓evDraw_nil, bir, putD, evDraw, trace, List.all_cons, List.all_nil, chk, stAt, again, sameV, sameL, sameA, AV.undef, Bool.and_self, Bool.and_true, decide_eq_true_eq, List.getElem?_nil, AV.cells, AV.tup, Bool.true_and, true_and, and_true, List.drop_nil, List.append_nil, rd_put, rd_alloc, rdO, St.get_put, St.get_alloc, St.next_put, St.next_alloc, St.wr, Bool.and_self, Bool.and_true, List.length_cons, List.length_nil, List.take_succ_cons, List.take_zero, List.drop_succ_cons, List.drop_zero, List.cons_append, List.nil_append, Nat.zero_add, Nat.add_zero, Nat.reduceMul, X6, X5, X4, X3, X2, X1, pt, hx, hrd, hS, sn, c0, c1, c4, c6, w1, w2, addB, b64]
          exact rfl, ?_⟩
        refine (((Upd.one S o _).put _).put _).cast ?_
        simp only [addS, if_neg c0, if_pos c1, sn, orb, ← e]
        rfl
      · rw [if_neg c6] at e
        refine ⟨_, by
          simp -implicitDefEqProofs -dsimp (maxSteps := 10000000) only [af14, ops_nil, ops_some, ops_none, oper_none, oper_some, gd_tt, gd_ff, gd_tf, gd_ft, gd_undef, ↓any_op, ↓any_call, ↓any_callV, ↓any_invoke, xo_t, xo_c, args_nil, args_cons, bin_add, bin_sub, bin_mul, bin_quo, bin_rem, bin_and, bin_or, bin_xor, bin_andNot, bin_eql, bin_neq, bin_lss, bin_leq, bin_gtr, bin_geq, bin_shl, bin_shr, bin_bools, bin_strs, bin_ptrs, bin_slices, bin_aggs, ↓Option.bind_some, ↓Option.map_some, ↓cond_true, ↓cond_false, evC, evOp, XO.lit, setArgs, Tr.tabG, Tr.tabS, Tr.tabL, Tr.get_lf, Option.bind_some, Option.map_some, cond_true, cond_false, maxI, maxFrom, minI, minFrom, aConv, aBinE, aEq, eqScal, aUn, evRes, fin, oneOf, if_true, if_false, callee, evF_eq, withX_some, withX_none, addX, X0, sN0, sN1, sN2, sN3, sN4, reduceCtorEq, Nat.reduceEqDiff, and_self, decide_true, decide_false, beq_true, beq_false, Bool.not_true, Bool.not_false, List.getElem?_cons_zero, List.getElem?_cons_succ, beq_self_eq_true, gt_iff_lt, ble_dec, beq_dec, List.head?_cons, AV.undef, eq_self, ne_eq, not_true_eq_false, not_false_eq_true, Int.reduceLT, Int.reduceLE, Int.reduceToNat, Int.reduceEq, Int.reduceNeg, Nat.reduceAdd, Nat.reduceLT, Nat.reduceLeDiff, Nat.reduceMul, Nat.reduceSub, ↓evDraw_nil, bir, putD, evDraw, trace, List.all_cons, List.all_nil, chk, stAt, again, sameV, sameL, sameA, AV.undef, Bool.and_self, Bool.and_true, decide_eq_true_eq, List.getElem?_nil, AV.cells, AV.tup, Bool.true_and, true_and, and_true, List.drop_nil, List.append_nil, rd_put, rd_alloc, rdO, St.get_put, St.get_alloc, St.next_put, St.next_alloc, St.wr, Bool.and_self, Bool.and_true, List.length_cons, List.length_nil, List.take_succ_cons, List.take_zero, List.drop_succ_cons, List.drop_zero, List.cons_append, List.nil_append, Nat.zero_add, Nat.add_zero, Nat.reduceMul, X6, X5, X4, X3, X2, X1, pt, hx, hrd, hS, sn, c0, c1, c4, c6, cp, w1, w2, addB, b64]
          exact rfl, ?_⟩
        refine (((Upd.one S o _).put _).put _).cast ?_
        simp only [addS, if_neg c0, if_pos c1, sn, orb]
    · have cp : ¬ (l - x < 0) := by omega
      by_cases c2 : dup ⟨f, l, c, M⟩ x
      · have hS' : Upd S S o (sn (addS ⟨f, l, c, M⟩ x)) := by
          refine (Upd.refl hS).cast ?_
          simp only [addS, if_neg c0, if_neg c1, if_pos c2]
        have hB : addB ⟨f, l, c, M⟩ x = false := by simp only [addB, if_neg c0, if_neg c1, if_pos c2]
        rw [hB]
        by_cases c6 : 63 < l - x
        · refine ⟨S, ?_, hS'⟩
          simp -implicitDefEqProofs -dsimp (maxSteps := 10000000) only [af14, ops_nil, ops_some, ops_none, oper_none, oper_some, gd_tt, gd_ff, gd_tf, gd_ft, gd_undef, ↓any_op, ↓any_call, ↓any_callV, ↓any_invoke, xo_t, xo_c, args_nil, args_cons, bin_add, bin_sub, bin_mul, bin_quo, bin_rem, bin_and, bin_or, bin_xor, bin_andNot, bin_eql, bin_neq, bin_lss, bin_leq, bin_gtr, bin_geq, bin_shl, bin_shr, bin_bools, bin_strs, bin_ptrs, bin_slices, bin_aggs, ↓Option.bind_some, ↓Option.map_some, ↓cond_true, ↓cond_false, evC, evOp, XO.lit, setArgs, Tr.tabG, Tr.tabS, Tr.tabL, Tr.get_lf, Option.bind_some, Option.map_some, cond_true, cond_false, maxI, maxFrom, minI, minFrom, aConv, aBinE, aEq, eqScal, aUn, evRes, fin, oneOf, if_true, if_false, callee, evF_eq, withX_some, withX_none, addX, X0, sN0, sN1, sN2, sN3, sN4, reduceCtorEq, Nat.reduceEqDiff, and_self, decide_true, decide_false, beq_true, beq_false, Bool.not_true, Bool.not_false, List.getElem?_cons_zero, List.getElem?_cons_succ, beq_self_eq_true, gt_iff_lt, ble_dec, beq_dec, List.head?_cons, AV.undef, eq_self, ne_eq, not_true_eq_false, not_false_eq_true, Int.reduceLT, Int.reduceLE, Int.reduceToNat, Int.reduceEq, Int.reduceNeg, Nat.reduceAdd, Nat.reduceLT, Nat.reduceLeDiff, Nat.reduceMul, Nat.reduceSub, ↓evDraw_nil, bir, putD, evDraw, trace, List.all_cons, List.all_nil, chk, stAt, again, sameV, sameL, sameA, AV.undef, Bool.and_self, Bool.and_true, decide_eq_true_eq, List.getElem?_nil, AV.cells, AV.tup, Bool.true_and, true_and, and_true, List.drop_nil, List.append_nil, rd_put, rd_alloc, rdO, St.get_put, St.get_alloc, St.next_put, St.next_alloc, St.wr, Bool.and_self, Bool.and_true, List.length_cons, List.length_nil, List.take_succ_cons, List.take_zero, List.drop_succ_cons, List.drop_zero, List.cons_append, List.nil_append, Nat.zero_add, Nat.add_zero, Nat.reduceMul, X6, X5, X4, X3, X2, X1, pt, hx, hrd, hS, sn, c0, c1, c6, w1, w3]
        · have c7 : seen M (l - x) = 1 := c2.resolve_left c6
          unfold seen at c7
          refine ⟨S, ?_, hS'⟩
          simp -implicitDefEqProofs -dsimp (maxSteps := 10000000) only [af14, ops_nil, ops_some, ops_none, oper_none, oper_some, gd_tt, gd_ff, gd_tf, gd_ft, gd_undef, ↓any_op, ↓any_call, ↓any_callV, ↓any_invoke, xo_t, xo_c, args_nil, args_cons, bin_add, bin_sub, bin_mul, bin_quo, bin_rem, bin_and, bin_or, bin_xor, bin_andNot, bin_eql, bin_neq, bin_lss, bin_leq, bin_gtr, bin_geq, bin_shl, bin_shr, bin_bools, bin_strs, bin_ptrs, bin_slices, bin_aggs, ↓Option.bind_some, ↓Option.map_some, ↓cond_true, ↓cond_false, evC, evOp, XO.lit, setArgs, Tr.tabG, Tr.tabS, Tr.tabL, Tr.get_lf, Option.bind_some, Option.map_some, cond_true, cond_false, maxI, maxFrom, minI, minFrom, aConv, aBinE, aEq, eqScal, aUn, evRes, fin, oneOf, if_true, if_false, callee, evF_eq, withX_some, withX_none, addX, X0, sN0, sN1, sN2, sN3, sN4, reduceCtorEq, Nat.reduceEqDiff, and_self, decide_true, decide_false, beq_true, beq_false, Bool.not_true, Bool.not_false, List.getElem?_cons_zero, List.getElem?_cons_succ, beq_self_eq_true, gt_iff_lt, ble_dec, beq_dec, List.head?_cons, AV.undef, eq_self, ne_eq, not_true_eq_false, not_false_eq_true, Int.reduceLT, Int.reduceLE, Int.reduceToNat, Int.reduceEq, Int.reduceNeg, Nat.reduceAdd, Nat.reduceLT, Nat.reduceLeDiff, Nat.reduceMul, Nat.reduceSub, ↓evDraw_nil, bir, putD, evDraw, trace, List.all_cons, List.all_nil, chk, stAt, again, sameV, sameL, sameA, AV.undef, Bool.and_self, Bool.and_true, decide_eq_true_eq, List.getElem?_nil, AV.cells, AV.tup, Bool.true_and, true_and, and_true, List.drop_nil, List.append_nil, rd_put, rd_alloc, rdO, St.get_put, St.get_alloc, St.next_put, St.next_alloc, St.wr, Bool.and_self, Bool.and_true, List.length_cons, List.length_nil, List.take_succ_cons, List.take_zero, List.drop_succ_cons, List.drop_zero, List.cons_append, List.nil_append, Nat.zero_add, Nat.add_zero, Nat.reduceMul, X6, X5, X4, X3, X2, X1, pt, hx, hrd, hS, sn, c0, c1, c6, cp, c7, w1, w3, b64]
      · have c6 : ¬ 63 < l - x := fun h => c2 (.inl h)
        have c7 : ¬ seen M (l - x) = 1 := fun h => c2 (.inr h)
        unfold seen at c7
        have hB : addB ⟨f, l, c, M⟩ x = true := by simp only [addB, if_neg c0, if_neg c1, if_neg c2]
        rw [hB]
        by_cases c4 : f ≤ x
        · refine ⟨_, by
            simp -implicitDefEqProofs -dsimp (maxSteps := 10000000) only [af14, ops_nil, ops_some, ops_none, oper_none, oper_some, gd_tt, gd_ff, gd_tf, gd_ft, gd_undef, ↓any_op, ↓any_call, ↓any_callV, ↓any_invoke, xo_t, xo_c, args_nil, args_cons, bin_add, bin_sub, bin_mul, bin_quo, bin_rem, bin_and, bin_or, bin_xor, bin_andNot, bin_eql, bin_neq, bin_lss, bin_leq, bin_gtr, bin_geq, bin_shl, bin_shr, bin_bools, bin_strs, bin_ptrs, bin_slices, bin_aggs, ↓Option.bind_some, ↓Option.map_some, ↓cond_true, ↓cond_false, evC, evOp, XO.lit, setArgs, Tr.tabG, Tr.tabS, Tr.tabL, Tr.get_lf, Option.bind_some, Option.map_some, cond_true, cond_false, maxI, maxFrom, minI, minFrom, aConv, aBinE, aEq, eqScal, aUn, evRes, fin, oneOf, if_true, if_false, callee, evF_eq, withX_some, withX_none, addX, X0, sN0, sN1, sN2, sN3, sN4, reduceCtorEq, Nat.reduceEqDiff, and_self, decide_true, decide_false, beq_true, beq_false, Bool.not_true, Bool.not_false, List.getElem?_cons_zero, List.getElem?_cons_succ, beq_self_eq_true, gt_iff_lt, ble_dec, beq_dec, List.head?_cons, AV.undef, eq_self, ne_eq, not_true_eq_false, not_false_eq_true, Int.reduceLT, Int.reduceLE, Int.reduceToNat, Int.reduceEq, Int.reduceNeg, Nat.reduceAdd, Nat.reduceLT, Nat.reduceLeDiff, Nat.reduceMul, Nat.reduceSub, ↓evDraw_nil, bir, putD, evDraw, trace, List.all_cons, List.all_nil, chk, stAt, again, sameV, sameL, sameA, AV.undef, Bool.and_self, Bool.and_true, decide_eq_true_eq, List.getElem?_nil, AV.cells, AV.tup, Bool.true_and, true_and, and_true, List.drop_nil, List.append_nil, rd_put, rd_alloc, rdO, St.get_put, St.get_alloc, St.next_put, St.next_alloc, St.wr, Bool.and_self, Bool.and_true, List.length_cons, List.length_nil, List.take_succ_cons, List.take_zero, List.drop_succ_cons, List.drop_zero, List.cons_append, List.nil_append, Nat.zero_add, Nat.add_zero, Nat.reduceMul, X6, X5, X4, X3, X2, X1, pt, hx, hrd, hS, sn, c0, c1, c4, c6, cp, c7, w1, w3, b64]
            exact rfl, ?_⟩
          refine ((Upd.one S o _).put _).cast ?_
          simp only [addS, if_neg c0, if_neg c1, if_neg c2, if_pos c4, sn, ors]
        · refine ⟨_, by
            simp -implicitDefEqProofs -dsimp (maxSteps := 10000000) only [af14, ops_nil, ops_some, ops_none, oper_none, oper_some, gd_tt, gd_ff, gd_tf, gd_ft, gd_undef, ↓any_op, ↓any_call, ↓any_callV, ↓any_invoke, xo_t, xo_c, args_nil, args_cons, bin_add, bin_sub, bin_mul, bin_quo, bin_rem, bin_and, bin_or, bin_xor, bin_andNot, bin_eql, bin_neq, bin_lss, bin_leq, bin_gtr, bin_geq, bin_shl, bin_shr, bin_bools, bin_strs, bin_ptrs, bin_slices, bin_aggs, ↓Option.bind_some, ↓Option.map_some, ↓cond_true, ↓cond_false, evC, evOp, XO.lit, setArgs, Tr.tabG, Tr.tabS, Tr.tabL, Tr.get_lf, Option.bind_some, Option.map_some, cond_true, cond_false, maxI, maxFrom, minI, minFrom, aConv, aBinE, aEq, eqScal, aUn, evRes, fin, oneOf, if_true, if_false, callee, evF_eq, withX_some, withX_none, addX, X0, sN0, sN1, sN2, sN3, sN4, reduceCtorEq, Nat.reduceEqDiff, and_self, decide_true, decide_false, beq_true, beq_false, Bool.not_true, Bool.not_false, List.getElem?_cons_zero, List.getElem?_cons_succ, beq_self_eq_true, gt_iff_lt, ble_dec, beq_dec, List.head?_cons, AV.undef, eq_self, ne_eq, not_true_eq_false, not_false_eq_true, Int.reduceLT, Int.reduceLE, Int.reduceToNat, Int.reduceEq, Int.reduceNeg, Nat.reduceAdd, Nat.reduceLT, Nat.reduceLeDiff, Nat.reduceMul, Nat.reduceSub, ↓evDraw_nil, bir, putD, evDraw, trace, List.all_cons, List.all_nil, chk, stAt, again, sameV, sameL, sameA, AV.undef, Bool.and_self, Bool.and_true, decide_eq_true_eq, List.getElem?_nil, AV.cells, AV.tup, Bool.true_and, true_and, and_true, List.drop_nil, List.append_nil, rd_put, rd_alloc, rdO, St.get_put, St.get_alloc, St.next_put, St.next_alloc, St.wr, Bool.and_self, Bool.and_true, List.length_cons, List.length_nil, List.take_succ_cons, List.take_zero, List.drop_succ_cons, List.drop_zero, List.cons_append, List.nil_append, Nat.zero_add, Nat.add_zero, Nat.reduceMul, X6, X5, X4, X3, X2, X1, pt, hx, hrd, hS, sn, c0, c1, c4, c6, cp, c7, w1, w3, b64]
            exact rfl, ?_⟩
          refine (Upd.one S o _).cast ?_
          simp only [addS, if_neg c0, if_neg c1, if_neg c2, if_neg c4, sn, ors]
end Go.Proofs.YtanloaedpalblaaA
