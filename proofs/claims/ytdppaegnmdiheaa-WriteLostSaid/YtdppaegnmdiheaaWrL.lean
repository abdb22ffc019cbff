/- Chapter 21: WriteLost, the function. -/
import Derived.Test.YtdppaegnmdiheaaWrK
set_option linter.unusedVariables false
set_option linter.unusedSimpArgs false
set_option maxRecDepth 10000
namespace Go.Proofs.YtdppaegnmdiheaaA
open Go.RowKit
attribute [local congr] bind_congr1 map_congr1 cond_congr1 withX_congr after_congr br_congr gd_congr

set_option maxHeartbeats 8000000 in
theorem ev7 (k : Nat) (s n : Int) {p : Option (Nat × Nat × Nat)} {len : Nat} {S : St} (h1 : Sl S p len [.bool]) :
    ∃ S', evF Y AP (k + 100) 7 [.int .u32 s, .int .i64 n, .slice p len 1 none] S = some (.bool true, S') := by
  suffices hh : ∃ v S', evF Y AP (k + 100) 7 [.int .u32 s, .int .i64 n, .slice p len 1 none] S = some (v, S') ∧ v = .bool true by
    obtain ⟨v, S', h1, rfl⟩ := hh; exact ⟨S', h1⟩
  obtain ⟨S1, r1, b1⟩ := T8 (S := S) (k + 95) s
  have r1 : evF Y AP (k + 99) 8 [.int .u32 s] S = _ := r1
  obtain ⟨S2, r2, u2⟩ := T11 (k + 95) b1.same 1
  have r2 : evF Y AP (k + 99) 11 [pt S.next, .int .i64 1] S1 = some (.bool true, S2) := r2
  obtain ⟨kk, hkk⟩ : ∃ kk : Nat, (kk : Int) = within n 1 20 := ⟨(within n 1 20).toNat, by have := within_bd n (lo := 1) (hi := 20) (by decide); omega⟩
  have hk := within_bd n (lo := 1) (hi := 20) (by decide)
  have r3 : ∀ S, evF Y AP (k + 99) 9 [.int .i64 n, .int .i64 1, .int .i64 20] S = some (.int .i64 kk, S) := fun S => by rw [hkk]; exact T9 (k + 95) S (by decide) (by decide) (by decide)
  have n1 := b1.next
  have n2 := u2.next
  obtain ⟨A, hA⟩ : ∃ A, ((S2.alloc (.cells [.int .u8 1] 0 0 true)).alloc (.cells zr 0 0 true)).put (S2.next + 1) (.cells (pcl S2.next) 0 0 true) = A := ⟨_, rfl⟩
  have eA : Ext S2 A := by rw [← hA]; exact ((Ext.alloc S2 _).then_alloc _).then_put (Nat.le_succ _) _
  have nA : A.next = S2.next + 2 := by rw [← hA]; rfl
  have e2 : Ext S S2 := ⟨by omega, fun j hj => by rw [u2.else (by omega)]; exact b1.ext.old j hj⟩
  have byB : By (S2.alloc (.cells [.int .u8 1] 0 0 true)) (some (S2.next, 0, 0)) 1 [1] := .lit (l := [1]) (fun b hb => by simp at hb; omega) (by simp)
  have byA : By A (some (S2.next, 0, 0)) 1 [1] := by
    rw [← hA]
    exact byB.ext (((Ext.refl _).then_alloc _).then_put (Nat.le_refl _) _)
  have Lx : Ly S.next S2.next (S2.next + 1) (wantW (newW s) 1) A :=
    ⟨eA.get (by omega) u2.same, by rw [← hA, St.get_put, if_pos rfl], byA, by omega, by omega, by omega, by omega⟩
  refine evF_goes (af := af7) (k := k + 99) rfl rfl rfl ?_
  simp -implicitDefEqProofs -dsimp (maxSteps := 10000000) only [af7, ↓goes_loop, ↓goes_seq, ↓goes_reg, ↓goes_dreg, ↓goes_cond, ↓goes_block, ↓goes_skip, ↓goes_exit, ↓goes_ret, after_some, br_true, br_false, ↓then_normal, ↓then_exit, ↓then_ret, ↓blk_normal, ↓blk_exit, ↓blk_ret, ↓blk_other, ops_nil, ops_some, ops_none, oper_none, oper_some, gd_tt, gd_ff, gd_tf, gd_ft, gd_undef, ↓any_op, ↓any_call, ↓any_callV, ↓any_invoke, xo_t, xo_c, args_nil, args_cons, bin_add, bin_sub, bin_mul, bin_quo, bin_rem, bin_and, bin_or, bin_xor, bin_andNot, bin_eql, bin_neq, bin_lss, bin_leq, bin_gtr, bin_geq, bin_shl, bin_shr, bin_bools, bin_strs, bin_ptrs, bin_slices, bin_aggs, ↓Option.bind_some, ↓Option.map_some, ↓cond_true, ↓cond_false, evC, evOp, XO.lit, setArgs, Tr.tabG, Tr.tabS, Tr.tabL, Tr.get_lf, Option.bind_some, Option.map_some, cond_true, cond_false, maxI, maxFrom, minI, minFrom, aConv, aBinE, aEq, eqScal, aUn, evRes, fin, oneOf, if_true, if_false, callee, reduceCtorEq, Nat.reduceEqDiff, and_self, decide_true, decide_false, beq_true, beq_false, Bool.not_true, Bool.not_false, List.getElem?_cons_zero, List.getElem?_cons_succ, beq_self_eq_true, gt_iff_lt, ble_dec, beq_dec, List.head?_cons, AV.undef, eq_self, ne_eq, not_true_eq_false, not_false_eq_true, Int.reduceLT, Int.reduceLE, Int.reduceToNat, Int.reduceEq, Int.reduceNeg, Nat.reduceAdd, Nat.reduceLT, Nat.reduceLeDiff, Nat.reduceMul, Nat.reduceSub, AV.cells, AV.tup, Bool.true_and, true_and, and_true, List.drop_nil, List.append_nil, rd_put, rd_alloc, rdO, St.get_put, St.get_alloc, St.next_put, St.next_alloc, St.wr, Bool.and_self, Bool.and_true, List.length_cons, List.length_nil, List.take_succ_cons, List.take_zero, List.drop_succ_cons, List.drop_zero, List.cons_append, List.nil_append, Nat.zero_add, Nat.add_zero, Nat.reduceMul, aFill, evParts, rep, List.replicate_succ, List.replicate_zero, List.flatten_cons, List.flatten_nil, List.append_nil, newSl, newVar, r1, r2, r3, Option.isNone_some, hA]
  refine .while (L1 p len S.next S2.next (S2.next + 1) kk S) id kk ⟨rfl, rfl, rfl, rfl, e2.trans eA, wantW (newW s) 1, 0, rfl, Lx, rfl, by omega, .inl ⟨rfl, rfl, rfl⟩⟩ (by show kk < k + 99; omega)
    fun m T2 Sx hI => (roundL1 k (by omega) (Nat.le_refl _) (by omega) m T2 Sx hI).mono ?_
  intro r T3 S3 hq
  cases r with
  | normal => exact hq
  | ret => exact absurd hq.1 (by simp)
  | exit j =>
    obtain ⟨hi, hq⟩ := hq
    cases hi
    obtain ⟨t2, t7, t8, t9, he, x, j, t10, L3, xw, hm, hst⟩ := hq
    obtain ⟨S4, r4, u4⟩ := T17 (k + 95) L3.gw
    have r4 : evF Y AP (k + 99) 17 [pt S.next] S3 = _ := r4
    have r5 := T13 (k + 95) u4.same
    have r5 : evF Y AP (k + 99) 13 [pt S.next] S4 = some (.int .i64 x.n, S4) := r5
    have L4 := L3.mut (.of_upd u4)
    simp -implicitDefEqProofs -dsimp (maxSteps := 10000000) only [↓goes_loop, ↓goes_seq, ↓goes_reg, ↓goes_dreg, ↓goes_cond, ↓goes_block, ↓goes_skip, ↓goes_exit, ↓goes_ret, after_some, br_true, br_false, ↓then_normal, ↓then_exit, ↓then_ret, ↓blk_normal, ↓blk_exit, ↓blk_ret, ↓blk_other, ops_nil, ops_some, ops_none, oper_none, oper_some, gd_tt, gd_ff, gd_tf, gd_ft, gd_undef, ↓any_op, ↓any_call, ↓any_callV, ↓any_invoke, xo_t, xo_c, args_nil, args_cons, bin_add, bin_sub, bin_mul, bin_quo, bin_rem, bin_and, bin_or, bin_xor, bin_andNot, bin_eql, bin_neq, bin_lss, bin_leq, bin_gtr, bin_geq, bin_shl, bin_shr, bin_bools, bin_strs, bin_ptrs, bin_slices, bin_aggs, ↓Option.bind_some, ↓Option.map_some, ↓cond_true, ↓cond_false, evC, evOp, XO.lit, setArgs, Tr.get_set, Option.bind_some, Option.map_some, cond_true, cond_false, maxI, maxFrom, minI, minFrom, aConv, aBinE, aEq, eqScal, aUn, evRes, fin, oneOf, if_true, if_false, callee, reduceCtorEq, Nat.reduceEqDiff, and_self, decide_true, decide_false, beq_true, beq_false, Bool.not_true, Bool.not_false, List.getElem?_cons_zero, List.getElem?_cons_succ, beq_self_eq_true, gt_iff_lt, ble_dec, beq_dec, List.head?_cons, AV.undef, eq_self, ne_eq, not_true_eq_false, not_false_eq_true, Int.reduceLT, Int.reduceLE, Int.reduceToNat, Int.reduceEq, Int.reduceNeg, Nat.reduceAdd, Nat.reduceLT, Nat.reduceLeDiff, Nat.reduceMul, Nat.reduceSub, AV.cells, AV.tup, Bool.true_and, true_and, and_true, List.drop_nil, List.append_nil, rd_put, rd_alloc, rdO, St.get_put, St.get_alloc, St.next_put, St.next_alloc, St.wr, Bool.and_self, Bool.and_true, List.length_cons, List.length_nil, List.take_succ_cons, List.take_zero, List.drop_succ_cons, List.drop_zero, List.cons_append, List.nil_append, Nat.zero_add, Nat.add_zero, Nat.reduceMul, t7, r4, r5]
    refine .while (L2 p len S.next S2.next (S2.next + 1) S) id 30 ⟨?_, ?_, ?_, (Mut.of_upd u4).ext he (Nat.le_refl _), { x with l := -1 }, 0, true, ?_, ?_, ?_, L4, xw, by omega, by omega, by show 0 ≤ x.n; omega, by show x.n ≤ _; omega, .inl ⟨rfl, rfl⟩⟩ (by show 30 < k + 99; omega)
      fun m T2 Sx hI => (roundL2 k h1 (Nat.le_refl _) (by omega) m T2 Sx hI).mono ?_
    iterate 6 (simp only [Tr.get_set, Nat.reduceEqDiff, if_false, if_true, t2, t7, t9]; try rfl)
    intro r T5 S5 hq
    cases r with
    | normal => exact hq
    | ret => exact absurd hq.1 (by simp)
    | exit j =>
      obtain ⟨hi, hq⟩ := hq
      cases hi
      obtain ⟨m, t2, t7, t9, he, x, j, f, t15, t14, t13, L5, xw, j1, hm, n0, n1, hst⟩ := hq
      have r6 := T15 (k + 95) L5.gw
      have r6 : evF Y AP (k + 99) 15 [pt S.next] S5 = some (.int .i64 x.w, S5) := r6
      rw [xw] at r6
      have r7 := T10 (k + 95) L5.gw
      have r7 : evF Y AP (k + 99) 10 [pt S.next] S5 = some (.int .i64 x.l, S5) := r7
      rcases hst with ⟨hl, rfl⟩ | ⟨hl, rfl, _⟩
      · rw [hl] at r7
        simp -implicitDefEqProofs -dsimp (maxSteps := 10000000) only [↓goes_loop, ↓goes_seq, ↓goes_reg, ↓goes_dreg, ↓goes_cond, ↓goes_block, ↓goes_skip, ↓goes_exit, ↓goes_ret, after_some, br_true, br_false, ↓then_normal, ↓then_exit, ↓then_ret, ↓blk_normal, ↓blk_exit, ↓blk_ret, ↓blk_other, ops_nil, ops_some, ops_none, oper_none, oper_some, gd_tt, gd_ff, gd_tf, gd_ft, gd_undef, ↓any_op, ↓any_call, ↓any_callV, ↓any_invoke, xo_t, xo_c, args_nil, args_cons, bin_add, bin_sub, bin_mul, bin_quo, bin_rem, bin_and, bin_or, bin_xor, bin_andNot, bin_eql, bin_neq, bin_lss, bin_leq, bin_gtr, bin_geq, bin_shl, bin_shr, bin_bools, bin_strs, bin_ptrs, bin_slices, bin_aggs, ↓Option.bind_some, ↓Option.map_some, ↓cond_true, ↓cond_false, evC, evOp, XO.lit, setArgs, Tr.get_set, Option.bind_some, Option.map_some, cond_true, cond_false, maxI, maxFrom, minI, minFrom, aConv, aBinE, aEq, eqScal, aUn, evRes, fin, oneOf, if_true, if_false, callee, reduceCtorEq, Nat.reduceEqDiff, and_self, decide_true, decide_false, beq_true, beq_false, Bool.not_true, Bool.not_false, List.getElem?_cons_zero, List.getElem?_cons_succ, beq_self_eq_true, gt_iff_lt, ble_dec, beq_dec, List.head?_cons, AV.undef, eq_self, ne_eq, not_true_eq_false, not_false_eq_true, Int.reduceLT, Int.reduceLE, Int.reduceToNat, Int.reduceEq, Int.reduceNeg, Nat.reduceAdd, Nat.reduceLT, Nat.reduceLeDiff, Nat.reduceMul, Nat.reduceSub, AV.cells, AV.tup, Bool.true_and, true_and, and_true, List.drop_nil, List.append_nil, rd_put, rd_alloc, rdO, St.get_put, St.get_alloc, St.next_put, St.next_alloc, St.wr, Bool.and_self, Bool.and_true, List.length_cons, List.length_nil, List.take_succ_cons, List.take_zero, List.drop_succ_cons, List.drop_zero, List.cons_append, List.nil_append, Nat.zero_add, Nat.add_zero, Nat.reduceMul, t7, t13, r6, r7, y14]
        exact ⟨_, _, rfl, rfl⟩
      · rw [hl] at r7
        simp -implicitDefEqProofs -dsimp (maxSteps := 10000000) only [↓goes_loop, ↓goes_seq, ↓goes_reg, ↓goes_dreg, ↓goes_cond, ↓goes_block, ↓goes_skip, ↓goes_exit, ↓goes_ret, after_some, br_true, br_false, ↓then_normal, ↓then_exit, ↓then_ret, ↓blk_normal, ↓blk_exit, ↓blk_ret, ↓blk_other, ops_nil, ops_some, ops_none, oper_none, oper_some, gd_tt, gd_ff, gd_tf, gd_ft, gd_undef, ↓any_op, ↓any_call, ↓any_callV, ↓any_invoke, xo_t, xo_c, args_nil, args_cons, bin_add, bin_sub, bin_mul, bin_quo, bin_rem, bin_and, bin_or, bin_xor, bin_andNot, bin_eql, bin_neq, bin_lss, bin_leq, bin_gtr, bin_geq, bin_shl, bin_shr, bin_bools, bin_strs, bin_ptrs, bin_slices, bin_aggs, ↓Option.bind_some, ↓Option.map_some, ↓cond_true, ↓cond_false, evC, evOp, XO.lit, setArgs, Tr.get_set, Option.bind_some, Option.map_some, cond_true, cond_false, maxI, maxFrom, minI, minFrom, aConv, aBinE, aEq, eqScal, aUn, evRes, fin, oneOf, if_true, if_false, callee, reduceCtorEq, Nat.reduceEqDiff, and_self, decide_true, decide_false, beq_true, beq_false, Bool.not_true, Bool.not_false, List.getElem?_cons_zero, List.getElem?_cons_succ, beq_self_eq_true, gt_iff_lt, ble_dec, beq_dec, List.head?_cons, AV.undef, eq_self, ne_eq, not_true_eq_false, not_false_eq_true, Int.reduceLT, Int.reduceLE, Int.reduceToNat, Int.reduceEq, Int.reduceNeg, Nat.reduceAdd, Nat.reduceLT, Nat.reduceLeDiff, Nat.reduceMul, Nat.reduceSub, AV.cells, AV.tup, Bool.true_and, true_and, and_true, List.drop_nil, List.append_nil, rd_put, rd_alloc, rdO, St.get_put, St.get_alloc, St.next_put, St.next_alloc, St.wr, Bool.and_self, Bool.and_true, List.length_cons, List.length_nil, List.take_succ_cons, List.take_zero, List.drop_succ_cons, List.drop_zero, List.cons_append, List.nil_append, Nat.zero_add, Nat.add_zero, Nat.reduceMul, t7, t13, r6, r7, y14]
        exact ⟨_, _, rfl, rfl⟩
theorem law7 {s n : Int} (_ : (Lit.int .u32 s).wf = true) (_ : (Lit.int .i64 n).wf = true) {p : Option (Nat × Nat × Nat)} {len : Nat} {xs : List AV} (h : Arg p 0 len [.bool] xs) :
    ∃ S', evF Y AP (0 + 100) 7 [.int .u32 s, .int .i64 n, .slice p len 1 none] (S0.alloc (.cells xs 0 0 false)) = some (.bool true, S') :=
  ev7 0 s n (.of_arg h (by rw [St.get_alloc]; rfl) (Nat.lt_succ_self 0))
end Go.Proofs.YtdppaegnmdiheaaA
