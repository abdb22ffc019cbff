/- Chapter 11: PacePlays. -/
import Derived.Test.YtkjmhhoioanolaaPcJ
import Derived.Test.YtkjmhhoioanolaaWiA
set_option linter.unusedVariables false
set_option linter.unusedSimpArgs false
set_option maxRecDepth 10000
namespace Go.Proofs.YtkjmhhoioanolaaA
open Go.RowKit
attribute [local congr] bind_congr1 map_congr1 cond_congr1 withX_congr after_congr br_congr gd_congr

set_option maxHeartbeats 4000000 in
theorem T15 (k : Nat) {S : St} {p : Option (Nat × Nat × Nat)} {len e : Nat} (hs : Sl S p len ask) (ez : p = none ∨ e = 2) (r u : Int) :
    ∃ S', evF Y AP (k + 2000) 15 [.int .i64 r, .int .i64 u, .slice p len e none] S = some (.bool true, S') ∧ Ext S S' := by
  suffices hh : ∃ v S', evF Y AP (k + 2000) 15 [.int .i64 r, .int .i64 u, .slice p len e none] S = some (v, S') ∧ v = .bool true ∧ Ext S S' by
    obtain ⟨v, S', h1, rfl, h2⟩ := hh; exact ⟨S', h1, h2⟩
  obtain ⟨S1, r1, e1, n1, Q1⟩ := T7 (S := S) (k + 1991) r u
  have r1 : evF Y AP (k + 1999) 7 [.int .i64 r, .int .i64 u] S = _ := r1
  obtain ⟨S2, r2, e2, n2, R2⟩ := T25 (S := S1) (k + 1991) r u
  have r2 : evF Y AP (k + 1999) 25 [.int .i64 r, .int .i64 u] S1 = _ := r2
  have B : Bo S (S.next + 1) S.next (S1.next + 1) S1.next [] (newB r u) 0 S2 := by
    refine ⟨e1.trans e2, _, _, Q1.fr (.of_ext e2 fun _ => False) fun _ _ h => h, R2, fun j hj => ⟨hj.1, fun hg => ?_⟩, fun j hj => ?_⟩ <;> omega
  refine evF_goes (af := af15) (k := k + 1999) rfl rfl rfl ?_
  simp -implicitDefEqProofs -dsimp (maxSteps := 10000000) only [af15, ↓goes_loop, ↓goes_seq, ↓goes_reg, ↓goes_dreg, ↓goes_cond, ↓goes_block, ↓goes_skip, ↓goes_exit, ↓goes_ret, after_some, br_true, br_false, ↓then_normal, ↓then_exit, ↓then_ret, ↓blk_normal, ↓blk_exit, ↓blk_ret, ↓blk_other, ops_nil, ops_some, ops_none, oper_none, oper_some, gd_tt, gd_ff, gd_tf, gd_ft, gd_undef, ↓any_op, ↓any_call, ↓any_callV, ↓any_invoke, xo_t, xo_c, args_nil, args_cons, bin_add, bin_sub, bin_mul, bin_quo, bin_rem, bin_and, bin_or, bin_xor, bin_andNot, bin_eql, bin_neq, bin_lss, bin_leq, bin_gtr, bin_geq, bin_shl, bin_shr, bin_bools, bin_strs, bin_ptrs, bin_slices, bin_aggs, ↓Option.bind_some, ↓Option.map_some, ↓cond_true, ↓cond_false, evC, evOp, XO.lit, setArgs, Tr.tabG, Tr.tabS, Tr.tabL, Tr.get_lf, Option.bind_some, Option.map_some, cond_true, cond_false, maxI, maxFrom, minI, minFrom, aConv, aBinE, aEq, eqScal, aUn, evRes, fin, oneOf, if_true, if_false, callee, reduceCtorEq, Nat.reduceEqDiff, and_self, decide_true, decide_false, beq_true, beq_false, Bool.not_true, Bool.not_false, List.getElem?_cons_zero, List.getElem?_cons_succ, beq_self_eq_true, gt_iff_lt, ble_dec, beq_dec, List.head?_cons, AV.undef, eq_self, ne_eq, not_true_eq_false, not_false_eq_true, Int.reduceLT, Int.reduceLE, Int.reduceToNat, Int.reduceEq, Int.reduceNeg, Nat.reduceAdd, Nat.reduceLT, Nat.reduceLeDiff, Nat.reduceMul, Nat.reduceSub, r1, r2]
  refine .while (I15 p len e (S.next + 1) S.next (S1.next + 1) S1.next S) id 100 ⟨rfl, rfl, rfl, [], newB r u, 0, 0, rfl, by omega, by omega, B⟩ (by show 100 < k + 1999; omega) fun m2 T2 S2 h2 => (round15 k hs ez m2 T2 S2 h2).mono ?_
  intro r T' S' hq
  cases r with
  | normal => exact hq
  | ret => exact absurd hq.1 (by simp)
  | exit i =>
    obtain ⟨hi, m, t2, t7, t8, rows, b, cut, j, t9, j1, hm, B⟩ := hq
    cases hi
    obtain ⟨x, x', S3, S4, r11, r27, r26, _, _, B4⟩ := B.go k
    simp -implicitDefEqProofs -dsimp (maxSteps := 10000000) only [↓goes_loop, ↓goes_seq, ↓goes_reg, ↓goes_dreg, ↓goes_cond, ↓goes_block, ↓goes_skip, ↓goes_exit, ↓goes_ret, after_some, br_true, br_false, ↓then_normal, ↓then_exit, ↓then_ret, ↓blk_normal, ↓blk_exit, ↓blk_ret, ↓blk_other, ops_nil, ops_some, ops_none, oper_none, oper_some, gd_tt, gd_ff, gd_tf, gd_ft, gd_undef, ↓any_op, ↓any_call, ↓any_callV, ↓any_invoke, xo_t, xo_c, args_nil, args_cons, bin_add, bin_sub, bin_mul, bin_quo, bin_rem, bin_and, bin_or, bin_xor, bin_andNot, bin_eql, bin_neq, bin_lss, bin_leq, bin_gtr, bin_geq, bin_shl, bin_shr, bin_bools, bin_strs, bin_ptrs, bin_slices, bin_aggs, ↓Option.bind_some, ↓Option.map_some, ↓cond_true, ↓cond_false, evC, evOp, XO.lit, setArgs, Tr.get_set, Option.bind_some, Option.map_some, cond_true, cond_false, maxI, maxFrom, minI, minFrom, aConv, aBinE, aEq, eqScal, aUn, evRes, fin, oneOf, if_true, if_false, callee, reduceCtorEq, Nat.reduceEqDiff, and_self, decide_true, decide_false, beq_true, beq_false, Bool.not_true, Bool.not_false, List.getElem?_cons_zero, List.getElem?_cons_succ, beq_self_eq_true, gt_iff_lt, ble_dec, beq_dec, List.head?_cons, AV.undef, eq_self, ne_eq, not_true_eq_false, not_false_eq_true, Int.reduceLT, Int.reduceLE, Int.reduceToNat, Int.reduceEq, Int.reduceNeg, Nat.reduceAdd, Nat.reduceLT, Nat.reduceLeDiff, Nat.reduceMul, Nat.reduceSub, AV.cells, AV.tup, Bool.true_and, true_and, and_true, List.drop_nil, List.append_nil, rd_put, rd_alloc, rdO, St.get_put, St.get_alloc, St.next_put, St.next_alloc, St.wr, Bool.and_self, Bool.and_true, List.length_cons, List.length_nil, List.take_succ_cons, List.take_zero, List.drop_succ_cons, List.drop_zero, List.cons_append, List.nil_append, Nat.zero_add, Nat.add_zero, Nat.reduceMul, Option.isNone_some, t7, t8, r11, r27, r26]
    exact ⟨_, _, rfl, rfl, B4.ext⟩
theorem aF (x : Int) : Go.bits .and .i64 x 1048575 = x % 1048576 := and_i64 20 (by decide) x
theorem a8191 (x : Int) : Go.bits .and .i64 x 8191 = x % 8192 := and_i64 13 (by decide) x
structure I6 (a b : Int) (p : Option (Nat × Nat × Nat)) (len : Nat) (Sb : St) (m : Nat) (T : Tm) (S : St) : Prop where
  t0 : T.get 0 = some (.int .i64 a)
  t1 : T.get 1 = some (.int .i64 b)
  t2 : T.get 2 = some (.slice p len 2 none)
  t11 : T.get 11 = some (.int .i64 len)
  ext : Ext Sb S
  more : ∃ (j : Nat) (q : Option (Nat × Nat × Nat)) (e : Nat) (c : List AV), T.get 12 = some (.int .i64 j) ∧ T.get 7 = some (.slice q j e none) ∧ Vec S q j 2 e c ∧ (∀ o v i, q = some (o, v, i) → Sb.next ≤ o) ∧
    (∀ i, i < j → Scs ask ((c.drop (i * 2)).take 2)) ∧ j + m = len
set_option maxHeartbeats 8000000 in
theorem round6 (k : Nat) (a b : Int) {p : Option (Nat × Nat × Nat)} {len : Nat} {Sb : St} (h : Sl Sb p len ask) (hr : len * 16 ≤ 140737488351232) (m : Nat) (T : Tm) (S : St) (hI : I6 a b p len Sb m T S) :
    Goes (evF Y AP (k + len + 2000)) (k + len + 2000) af6_l0 T S (Then (fun T' S' => ∃ m', I6 a b p len Sb m' T' S' ∧ id m' < id m) fun r T' S' => r = .exit 0 ∧ I6 a b p len Sb 0 T' S') := by
  have hmx := h.max
  obtain ⟨t0, t1, t2, t11, he, j, q, e, c, t12, t7, V, lo, hsc, hm⟩ := hI
  rcases m with _ | m
  · have c1 : ¬ (j : Int) < (len : Int) := by omega
    simp -implicitDefEqProofs -dsimp (maxSteps := 10000000) only [af6_l0, ↓goes_loop, ↓goes_seq, ↓goes_reg, ↓goes_dreg, ↓goes_cond, ↓goes_block, ↓goes_skip, ↓goes_exit, ↓goes_ret, after_some, br_true, br_false, ↓then_normal, ↓then_exit, ↓then_ret, ↓blk_normal, ↓blk_exit, ↓blk_ret, ↓blk_other, ops_nil, ops_some, ops_none, oper_none, oper_some, gd_tt, gd_ff, gd_tf, gd_ft, gd_undef, ↓any_op, ↓any_call, ↓any_callV, ↓any_invoke, xo_t, xo_c, args_nil, args_cons, bin_add, bin_sub, bin_mul, bin_quo, bin_rem, bin_and, bin_or, bin_xor, bin_andNot, bin_eql, bin_neq, bin_lss, bin_leq, bin_gtr, bin_geq, bin_shl, bin_shr, bin_bools, bin_strs, bin_ptrs, bin_slices, bin_aggs, ↓Option.bind_some, ↓Option.map_some, ↓cond_true, ↓cond_false, evC, evOp, XO.lit, setArgs, Tr.get_set, Option.bind_some, Option.map_some, cond_true, cond_false, maxI, maxFrom, minI, minFrom, aConv, aBinE, aEq, eqScal, aUn, evRes, fin, oneOf, if_true, if_false, callee, reduceCtorEq, Nat.reduceEqDiff, and_self, decide_true, decide_false, beq_true, beq_false, Bool.not_true, Bool.not_false, List.getElem?_cons_zero, List.getElem?_cons_succ, beq_self_eq_true, gt_iff_lt, ble_dec, beq_dec, List.head?_cons, AV.undef, eq_self, ne_eq, not_true_eq_false, not_false_eq_true, Int.reduceLT, Int.reduceLE, Int.reduceToNat, Int.reduceEq, Int.reduceNeg, Nat.reduceAdd, Nat.reduceLT, Nat.reduceLeDiff, Nat.reduceMul, Nat.reduceSub, AV.cells, AV.tup, Bool.true_and, true_and, and_true, List.drop_nil, List.append_nil, rd_put, rd_alloc, rdO, St.get_put, St.get_alloc, St.next_put, St.next_alloc, St.wr, Bool.and_self, Bool.and_true, List.length_cons, List.length_nil, List.take_succ_cons, List.take_zero, List.drop_succ_cons, List.drop_zero, List.cons_append, List.nil_append, Nat.zero_add, Nat.add_zero, Nat.reduceMul, t11, t12, c1]
    refine ⟨?_, ?_, ?_, ?_, he, j, q, e, c, ?_, ?_, V, lo, hsc, hm⟩ <;> simp only [Tr.get_set, Nat.reduceEqDiff, if_false, if_true, t0, t1, t2, t11, t12, t7]
  have c1 : (j : Int) < (len : Int) := by omega
  obtain ⟨o1, v1, i1, rfl, ho1⟩ := h.at_ (by omega)
  obtain ⟨x, y, hxy, _, _, hx, hy⟩ := h.two (j := (j : Int)) (by omega) c1
  obtain ⟨kd, rfl, wk⟩ := Sc.of_int hx
  obtain ⟨n, rfl, wn⟩ := Sc.of_int hy
  rw [show ((j : Nat) : Int).toNat = j from rfl] at hxy
  have hz : S.rd o1 v1 (i1 + j * 2) 2 = some [.int .i64 kd, .int .i64 n] := by rw [he.rd ho1]; exact hxy
  have hix : ixOf (.int .i64 (j : Int)) len = some j := by rw [ix_ok (by omega) c1]; rfl
  have wj : IntKind.i64.wrap ((j : Int) + 1) = ((j + 1 : Nat) : Int) := w64_id (by omega) (by omega)
  have r8 : ∀ S, evF Y AP (k + len + 2000) 8 [.int .i64 kd, .int .i64 0, .int .i64 5] S = some (.int .i64 (within kd 0 5), S) := fun S => T8 (k + len + 1996) S (by decide) (by decide) (by decide)
  obtain ⟨K, hK⟩ : ∃ K, within kd 0 5 = K := ⟨_, rfl⟩
  have bK := within_bd kd (show (0 : Int) ≤ 5 by decide)
  rw [hK] at r8 bK
  obtain ⟨A1, hA1⟩ : ∃ A1, (S.alloc (.cells [.int .i64 0, .int .i64 0] 0 0 true)).put S.next (.cells [.int .i64 kd, .int .i64 n] 0 0 true) = A1 := ⟨_, rfl⟩
  have eA1 : Ext S A1 := by rw [← hA1]; exact (Ext.alloc S _).then_put (Nat.le_refl _) _
  have nA1 : A1.next = S.next + 1 := by rw [← hA1]; rfl
  have g1 : A1.get S.next = some (.cells [.int .i64 kd, .int .i64 n] 0 0 true) := by rw [← hA1, St.get_put, if_pos rfl]
  have r1 : ∀ v i m, A1.rd S.next v i m = rdO (.cells [.int .i64 kd, .int .i64 n] 0 0 true) v i m := rd_of g1
  obtain ⟨A2, hA2⟩ : ∃ A2, A1.put S.next (.cells [.int .i64 K, .int .i64 n] 0 0 true) = A2 := ⟨_, rfl⟩
  have u2 : Upd A1 A2 S.next (.cells [.int .i64 K, .int .i64 n] 0 0 true) := by rw [← hA2]; exact .one _ _ _
  have r2 : ∀ v i m, A2.rd S.next v i m = rdO (.cells [.int .i64 K, .int .i64 n] 0 0 true) v i m := rd_of u2.same
  have g2 := u2.same
  have hne := he.next
  have fin : ∀ (A3 : St) (n' : Int), (Lit.int .i64 n').wf = true → Upd A1 A3 S.next (.cells [.int .i64 K, .int .i64 n'] 0 0 true) →
      ∃ q' S3, aAppend 2 16 (A3.alloc (.cells [.int .i64 K, .int .i64 n'] 0 0 true)) (.slice q j e none) 1 [.int .i64 K, .int .i64 n'] = some (.slice q' (j + 1) 2 none, S3) ∧ Vec S3 q' (j + 1) 2 2 (c ++ [.int .i64 K, .int .i64 n']) ∧ Ext Sb S3 ∧ (∀ o v i, q' = some (o, v, i) → Sb.next ≤ o) ∧
        (∀ i, i < j + 1 → Scs ask (((c ++ ([.int .i64 K, .int .i64 n'] : List AV)).drop (i * 2)).take 2)) := by
    intro A3 n' wn' u3
    have e3 : Ext S (A3.alloc (.cells [.int .i64 K, .int .i64 n'] 0 0 true)) := (u3.ext eA1 (Nat.le_refl _)).then_alloc _
    have n3 := u3.next
    obtain ⟨q', S3, hap, V2, G, Nn⟩ := (V.ext e3).append (bytes := 16) (xs := [.int .i64 K, .int .i64 n']) (n := 1) rfl (by decide) (by omega)
    have nx : (A3.alloc (.cells [.int .i64 K, .int .i64 n'] 0 0 true)).next = A3.next + 1 := rfl
    refine ⟨q', S3, hap, V2, ⟨Nat.le_trans (Nat.le_trans he.next e3.next) G.next, fun o ho => ?_⟩, fun o v i hq => ?_, Scs_snoc (ks := ask) V.sz hsc ⟨⟨rfl, mk_i64 (by omega) (by omega)⟩, ⟨rfl, wn'⟩, trivial⟩⟩
    · rw [G.old o (by omega) (fun v i hq => by have := lo _ _ _ hq; omega), e3.old o (by omega)]
      exact he.old o ho
    · rcases Nn o v i hq with hq | ⟨v2, i2, hq⟩
      · omega
      · exact lo _ _ _ hq
  by_cases c3 : 3 < K
  · have u3 := u2.put (.cells [.int .i64 K, .int .i64 (n % 1048576)] 0 0 true)
    obtain ⟨q', S3, hap, V2, ex, lo2, hs2⟩ := fin _ (n % 1048576) (mk_i64 (by omega) (by omega)) u3
    have hnn : (A2.put S.next (.cells [.int .i64 K, .int .i64 (n % 1048576)] 0 0 true)).next = A2.next := rfl
    have nA2 : ¬ S.next = A2.next := by have := u2.next; omega
    simp -implicitDefEqProofs -dsimp (maxSteps := 10000000) only [af6_l0, ↓goes_loop, ↓goes_seq, ↓goes_reg, ↓goes_dreg, ↓goes_cond, ↓goes_block, ↓goes_skip, ↓goes_exit, ↓goes_ret, after_some, br_true, br_false, ↓then_normal, ↓then_exit, ↓then_ret, ↓blk_normal, ↓blk_exit, ↓blk_ret, ↓blk_other, ops_nil, ops_some, ops_none, oper_none, oper_some, gd_tt, gd_ff, gd_tf, gd_ft, gd_undef, ↓any_op, ↓any_call, ↓any_callV, ↓any_invoke, xo_t, xo_c, args_nil, args_cons, bin_add, bin_sub, bin_mul, bin_quo, bin_rem, bin_and, bin_or, bin_xor, bin_andNot, bin_eql, bin_neq, bin_lss, bin_leq, bin_gtr, bin_geq, bin_shl, bin_shr, bin_bools, bin_strs, bin_ptrs, bin_slices, bin_aggs, ↓Option.bind_some, ↓Option.map_some, ↓cond_true, ↓cond_false, evC, evOp, XO.lit, setArgs, Tr.get_set, Option.bind_some, Option.map_some, cond_true, cond_false, maxI, maxFrom, minI, minFrom, aConv, aBinE, aEq, eqScal, aUn, evRes, fin, oneOf, if_true, if_false, callee, reduceCtorEq, Nat.reduceEqDiff, and_self, decide_true, decide_false, beq_true, beq_false, Bool.not_true, Bool.not_false, List.getElem?_cons_zero, List.getElem?_cons_succ, beq_self_eq_true, gt_iff_lt, ble_dec, beq_dec, List.head?_cons, AV.undef, eq_self, ne_eq, not_true_eq_false, not_false_eq_true, Int.reduceLT, Int.reduceLE, Int.reduceToNat, Int.reduceEq, Int.reduceNeg, Nat.reduceAdd, Nat.reduceLT, Nat.reduceLeDiff, Nat.reduceMul, Nat.reduceSub, ↓evDraw_nil, bir, putD, evDraw, trace, List.all_cons, List.all_nil, chk, stAt, again, sameV, sameL, sameA, AV.undef, Bool.and_self, Bool.and_true, decide_eq_true_eq, List.getElem?_nil, AV.cells, AV.tup, Bool.true_and, true_and, and_true, List.drop_nil, List.append_nil, rd_put, rd_alloc, rdO, St.get_put, St.get_alloc, St.next_put, St.next_alloc, St.wr, Bool.and_self, Bool.and_true, List.length_cons, List.length_nil, List.take_succ_cons, List.take_zero, List.drop_succ_cons, List.drop_zero, List.cons_append, List.nil_append, Nat.zero_add, Nat.add_zero, Nat.reduceMul, aFill, evParts, rep, List.replicate_succ, List.replicate_zero, List.flatten_cons, List.flatten_nil, List.append_nil, newSl, newVar, t2, t7, t11, t12, c1, hix, hz, hA1, r1, g1, r8, hA2, r2, g2, c3, aF, hap, wj, nA2]
    refine ⟨m, ⟨?_, ?_, ?_, ?_, ex, j + 1, q', 2, _, ?_, ?_, V2, lo2, hs2, by omega⟩, Nat.lt_succ_self m⟩ <;> simp only [Tr.get_set, Nat.reduceEqDiff, if_false, if_true, t0, t1, t2, t11]
  · obtain ⟨q', S3, hap, V2, ex, lo2, hs2⟩ := fin _ n wn u2
    simp -implicitDefEqProofs -dsimp (maxSteps := 10000000) only [af6_l0, ↓goes_loop, ↓goes_seq, ↓goes_reg, ↓goes_dreg, ↓goes_cond, ↓goes_block, ↓goes_skip, ↓goes_exit, ↓goes_ret, after_some, br_true, br_false, ↓then_normal, ↓then_exit, ↓then_ret, ↓blk_normal, ↓blk_exit, ↓blk_ret, ↓blk_other, ops_nil, ops_some, ops_none, oper_none, oper_some, gd_tt, gd_ff, gd_tf, gd_ft, gd_undef, ↓any_op, ↓any_call, ↓any_callV, ↓any_invoke, xo_t, xo_c, args_nil, args_cons, bin_add, bin_sub, bin_mul, bin_quo, bin_rem, bin_and, bin_or, bin_xor, bin_andNot, bin_eql, bin_neq, bin_lss, bin_leq, bin_gtr, bin_geq, bin_shl, bin_shr, bin_bools, bin_strs, bin_ptrs, bin_slices, bin_aggs, ↓Option.bind_some, ↓Option.map_some, ↓cond_true, ↓cond_false, evC, evOp, XO.lit, setArgs, Tr.get_set, Option.bind_some, Option.map_some, cond_true, cond_false, maxI, maxFrom, minI, minFrom, aConv, aBinE, aEq, eqScal, aUn, evRes, fin, oneOf, if_true, if_false, callee, reduceCtorEq, Nat.reduceEqDiff, and_self, decide_true, decide_false, beq_true, beq_false, Bool.not_true, Bool.not_false, List.getElem?_cons_zero, List.getElem?_cons_succ, beq_self_eq_true, gt_iff_lt, ble_dec, beq_dec, List.head?_cons, AV.undef, eq_self, ne_eq, not_true_eq_false, not_false_eq_true, Int.reduceLT, Int.reduceLE, Int.reduceToNat, Int.reduceEq, Int.reduceNeg, Nat.reduceAdd, Nat.reduceLT, Nat.reduceLeDiff, Nat.reduceMul, Nat.reduceSub, ↓evDraw_nil, bir, putD, evDraw, trace, List.all_cons, List.all_nil, chk, stAt, again, sameV, sameL, sameA, AV.undef, Bool.and_self, Bool.and_true, decide_eq_true_eq, List.getElem?_nil, AV.cells, AV.tup, Bool.true_and, true_and, and_true, List.drop_nil, List.append_nil, rd_put, rd_alloc, rdO, St.get_put, St.get_alloc, St.next_put, St.next_alloc, St.wr, Bool.and_self, Bool.and_true, List.length_cons, List.length_nil, List.take_succ_cons, List.take_zero, List.drop_succ_cons, List.drop_zero, List.cons_append, List.nil_append, Nat.zero_add, Nat.add_zero, Nat.reduceMul, aFill, evParts, rep, List.replicate_succ, List.replicate_zero, List.flatten_cons, List.flatten_nil, List.append_nil, newSl, newVar, t2, t7, t11, t12, c1, hix, hz, hA1, r1, g1, r8, hA2, r2, g2, c3, aF, hap, wj]
    refine ⟨m, ⟨?_, ?_, ?_, ?_, ex, j + 1, q', 2, _, ?_, ?_, V2, lo2, hs2, by omega⟩, Nat.lt_succ_self m⟩ <;> simp only [Tr.get_set, Nat.reduceEqDiff, if_false, if_true, t0, t1, t2, t11]
set_option maxHeartbeats 4000000 in
theorem ev6 (k : Nat) (a b : Int) {p : Option (Nat × Nat × Nat)} {len : Nat} {S : St} (h1 : Sl S p len ask) (hr : len * 16 ≤ 140737488351232) :
    ∃ S', evF Y AP (k + len + 2001) 6 [.int .i64 a, .int .i64 b, .slice p len 2 none] S = some (.bool true, S') := by
  suffices hh : ∃ v S', evF Y AP (k + len + 2001) 6 [.int .i64 a, .int .i64 b, .slice p len 2 none] S = some (v, S') ∧ v = .bool true by
    obtain ⟨v, S', h1, rfl⟩ := hh; exact ⟨S', h1⟩
  have hm := h1.max
  refine evF_goes (af := af6) (k := k + len + 2000) rfl rfl rfl ?_
  simp -implicitDefEqProofs -dsimp (maxSteps := 10000000) only [af6, ↓goes_loop, ↓goes_seq, ↓goes_reg, ↓goes_dreg, ↓goes_cond, ↓goes_block, ↓goes_skip, ↓goes_exit, ↓goes_ret, after_some, br_true, br_false, ↓then_normal, ↓then_exit, ↓then_ret, ↓blk_normal, ↓blk_exit, ↓blk_ret, ↓blk_other, ops_nil, ops_some, ops_none, oper_none, oper_some, gd_tt, gd_ff, gd_tf, gd_ft, gd_undef, ↓any_op, ↓any_call, ↓any_callV, ↓any_invoke, xo_t, xo_c, args_nil, args_cons, bin_add, bin_sub, bin_mul, bin_quo, bin_rem, bin_and, bin_or, bin_xor, bin_andNot, bin_eql, bin_neq, bin_lss, bin_leq, bin_gtr, bin_geq, bin_shl, bin_shr, bin_bools, bin_strs, bin_ptrs, bin_slices, bin_aggs, ↓Option.bind_some, ↓Option.map_some, ↓cond_true, ↓cond_false, evC, evOp, XO.lit, setArgs, Tr.tabG, Tr.tabS, Tr.tabL, Tr.get_lf, Option.bind_some, Option.map_some, cond_true, cond_false, maxI, maxFrom, minI, minFrom, aConv, aBinE, aEq, eqScal, aUn, evRes, fin, oneOf, if_true, if_false, callee, reduceCtorEq, Nat.reduceEqDiff, and_self, decide_true, decide_false, beq_true, beq_false, Bool.not_true, Bool.not_false, List.getElem?_cons_zero, List.getElem?_cons_succ, beq_self_eq_true, gt_iff_lt, ble_dec, beq_dec, List.head?_cons, AV.undef, eq_self, ne_eq, not_true_eq_false, not_false_eq_true, Int.reduceLT, Int.reduceLE, Int.reduceToNat, Int.reduceEq, Int.reduceNeg, Nat.reduceAdd, Nat.reduceLT, Nat.reduceLeDiff, Nat.reduceMul, Nat.reduceSub, ↓evDraw_nil, bir, putD, evDraw, trace, List.all_cons, List.all_nil, chk, stAt, again, sameV, sameL, sameA, AV.undef, Bool.and_self, Bool.and_true, decide_eq_true_eq, List.getElem?_nil, hm]
  refine .while (I6 a b p len S) id len ⟨rfl, rfl, rfl, rfl, .refl _, 0, none, 0, [], rfl, rfl, .nil _ _ _, fun _ _ _ h => (by cases h), fun i h => absurd h (Nat.not_lt_zero _), by omega⟩ (by show len < k + len + 2000; omega)
    fun m T2 S2 hI => (round6 k a b h1 hr m T2 S2 hI).mono ?_
  intro r T' S' hq
  cases r with
  | normal => exact hq
  | ret => exact absurd hq.1 (by simp)
  | exit i =>
    obtain ⟨hi, t0, t1, t2, t11, he, j, q, e, c, t12, t7, V, lo, hsc, hj⟩ := hq
    cases hi
    have sl := V.sl (ks := ask) (by omega) hsc
    obtain ⟨S3, r3, x3⟩ := T15 (k + len) (e := e) sl V.ez (a % 1048576) (b % 8192)
    obtain ⟨S4, r4, x4⟩ := T15 (k + len) (e := 2) (h1.ext (he.trans x3)) (.inr rfl) a b
    obtain ⟨S5, r5, x5⟩ := T15 (k + len) (e := e) (sl.ext (x3.trans x4)) V.ez a 6000
    simp -implicitDefEqProofs -dsimp (maxSteps := 10000000) only [↓goes_loop, ↓goes_seq, ↓goes_reg, ↓goes_dreg, ↓goes_cond, ↓goes_block, ↓goes_skip, ↓goes_exit, ↓goes_ret, after_some, br_true, br_false, ↓then_normal, ↓then_exit, ↓then_ret, ↓blk_normal, ↓blk_exit, ↓blk_ret, ↓blk_other, ops_nil, ops_some, ops_none, oper_none, oper_some, gd_tt, gd_ff, gd_tf, gd_ft, gd_undef, ↓any_op, ↓any_call, ↓any_callV, ↓any_invoke, xo_t, xo_c, args_nil, args_cons, bin_add, bin_sub, bin_mul, bin_quo, bin_rem, bin_and, bin_or, bin_xor, bin_andNot, bin_eql, bin_neq, bin_lss, bin_leq, bin_gtr, bin_geq, bin_shl, bin_shr, bin_bools, bin_strs, bin_ptrs, bin_slices, bin_aggs, ↓Option.bind_some, ↓Option.map_some, ↓cond_true, ↓cond_false, evC, evOp, XO.lit, setArgs, Tr.get_set, Option.bind_some, Option.map_some, cond_true, cond_false, maxI, maxFrom, minI, minFrom, aConv, aBinE, aEq, eqScal, aUn, evRes, fin, oneOf, if_true, if_false, callee, reduceCtorEq, Nat.reduceEqDiff, and_self, decide_true, decide_false, beq_true, beq_false, Bool.not_true, Bool.not_false, List.getElem?_cons_zero, List.getElem?_cons_succ, beq_self_eq_true, gt_iff_lt, ble_dec, beq_dec, List.head?_cons, AV.undef, eq_self, ne_eq, not_true_eq_false, not_false_eq_true, Int.reduceLT, Int.reduceLE, Int.reduceToNat, Int.reduceEq, Int.reduceNeg, Nat.reduceAdd, Nat.reduceLT, Nat.reduceLeDiff, Nat.reduceMul, Nat.reduceSub, AV.cells, AV.tup, Bool.true_and, true_and, and_true, List.drop_nil, List.append_nil, rd_put, rd_alloc, rdO, St.get_put, St.get_alloc, St.next_put, St.next_alloc, St.wr, Bool.and_self, Bool.and_true, List.length_cons, List.length_nil, List.take_succ_cons, List.take_zero, List.drop_succ_cons, List.drop_zero, List.cons_append, List.nil_append, Nat.zero_add, Nat.add_zero, Nat.reduceMul, t0, t1, t2, t7, aF, a8191, r3, r4, r5, y13]
    exact ⟨_, _, rfl, rfl⟩
theorem law6 {a b : Int} (_ : (Lit.int .i64 a).wf = true) (_ : (Lit.int .i64 b).wf = true) {p : Option (Nat × Nat × Nat)} {len : Nat} {xs : List AV} (h : Arg p 0 len ask xs) (hr : len * 16 ≤ 140737488351232) :
    ∃ S', evF Y AP (0 + len + 2001) 6 [.int .i64 a, .int .i64 b, .slice p len 2 none] (S0.alloc (.cells xs 0 0 false)) = some (.bool true, S') :=
  ev6 0 a b (.of_arg h (by rw [St.get_alloc]; rfl) (Nat.lt_succ_self 0)) hr
end Go.Proofs.YtkjmhhoioanolaaA
