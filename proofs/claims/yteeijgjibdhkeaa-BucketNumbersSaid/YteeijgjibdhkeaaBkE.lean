/- Chapter 10: no more is taken than the burst, and the rate times the time. -/
import Derived.Test.YteeijgjibdhkeaaBkD
import Derived.Test.YteeijgjibdhkeaaAeS7
set_option linter.unusedVariables false
set_option linter.unusedSimpArgs false
set_option maxRecDepth 10000
namespace Go.Proofs.YteeijgjibdhkeaaA
open Go.RowKit
attribute [local congr] bind_congr1 map_congr1 cond_congr1 withX_congr after_congr br_congr gd_congr

theorem m1 (x : Int) : Go.bits .and .i64 x 1 = x % 2 := and_i64 1 (by decide) x
theorem m12 (x : Int) : Go.bits .and .i64 x 4095 = x % 4096 := and_i64 12 (by decide) x
theorem m18 (x : Int) : Go.bits .and .i64 x 262143 = x % 262144 := and_i64 18 (by decide) x
structure I3 (r u w : Int) (p : Option (Nat × Nat × Nat)) (len : Nat) (Sb : St) (n : Nat) (T : Tm) (S : St) : Prop where
  t2 : T.get 2 = some (.slice p len 2 none)
  t9 : T.get 9 = some (.int .i64 r)
  t10 : T.get 10 = some (.int .i64 u)
  t11 : T.get 11 = some (pt Sb.next)
  t14 : T.get 14 = some (.int .i64 w)
  ext : Ext Sb S
  more : ∃ i took time l : Int, T.get 15 = some (.int .i64 i) ∧ T.get 12 = some (.int .i64 took) ∧ T.get 13 = some (.int .i64 time) ∧ S.get Sb.next = some (bk ⟨r, u, l⟩) ∧ OkB ⟨r, u, l⟩ ∧ 0 ≤ i ∧ i ≤ 100 ∧ (n : Int) = 100 - i ∧
    0 ≤ took ∧ took ≤ 4095 * i ∧ 0 ≤ time ∧ time ≤ 262143 * i ∧ took * 1000000 + l ≤ u * 1000000 + r * time ∧ (i ≤ w → took = 0)
theorem over_ok {x took u : Int} (h0 : 0 ≤ x) (h1 : x ≤ 1000000000000000000) (h : took * 1000000 ≤ u * 1000000 + x) : took ≤ u + upq (up x) (up 1000000) ∧ 0 ≤ upq (up x) (up 1000000) ∧ upq (up x) (up 1000000) ≤ x := by
  rw [up_pos h0, up_pos (show (0:Int) ≤ 1000000 by decide)]
  obtain ⟨a, b, c⟩ := upq_bd (y := 1000000) h0 (by decide)
  obtain ⟨c, d⟩ := c (by decide)
  omega
set_option maxHeartbeats 8000000 in
theorem round3 (k : Nat) (r u w : Int) (r0 : 0 ≤ r) (r1 : r ≤ 1048575) (u0 : 0 ≤ u) (u1 : u ≤ 16383) {p : Option (Nat × Nat × Nat)} {len : Nat} {Sb : St} (h : Sl Sb p len [.int .i64, .int .i64]) (n : Nat) (T : Tm) (S : St) (hI : I3 r u w p len Sb n T S) :
    Goes (evF Y AP (k + 199)) (k + 199) af3_l0 T S (Then (fun T' S' => ∃ n', I3 r u w p len Sb n' T' S' ∧ id n' < id n) fun q T' S' => q = .exit 0 ∧ ∃ n', I3 r u w p len Sb n' T' S') := by
  have hm := h.max
  obtain ⟨t2, t9, t10, t11, t14, he, i, took, time, l, t15, t12, t13, gb, ok, i0, i1, hn, k0, k1, m0, m1', hle, hw⟩ := hI
  by_cases c1 : i < len
  · by_cases c2 : i < 100
    · obtain ⟨o, v, j, rfl, ho⟩ := h.at_ (by omega)
      obtain ⟨x, z, _, hx0, hz0, hxw, hzw⟩ := h.two i0 c1
      obtain ⟨x, rfl, wx⟩ := Sc.of_int hxw
      obtain ⟨z, rfl, wz⟩ := Sc.of_int hzw
      have hx : S.rd o v (j + i.toNat * 2) 1 = some [.int .i64 x] := by rw [he.rd ho]; exact hx0
      have hz : S.rd o v (j + i.toNat * 2 + 1) 1 = some [.int .i64 z] := by rw [he.rd ho]; exact hz0
      have hix : ixOf (.int .i64 i) len = some i.toNat := ix_ok i0 c1
      obtain ⟨d, hd⟩ : ∃ d, z % 262144 = d := ⟨_, rfl⟩
      have d0 : 0 ≤ d := by omega
      have d1 : d ≤ 262143 := by omega
      have w2 : IntKind.i64.wrap (i + 1) = i + 1 := w64_id (by omega) (by omega)
      have hp : 0 ≤ r * time := Int.mul_nonneg r0 m0
      have hp2 : r * time ≤ 1048575 * time := Int.mul_le_mul_of_nonneg_right r1 m0
      by_cases c3 : x % 2 = 0
      · obtain ⟨S2, e10, b2⟩ := T10 (k + 195) ok gb d
        have ok2 := tickB_ok ok d
        have e2 : Ext Sb S2 := b2.ext he (Nat.le_refl _)
        have hl2 : (tickB ⟨r, u, l⟩ d).l ≤ l + r * d ∧ (tickB ⟨r, u, l⟩ d).l ≤ u * 1000000 := by
          simp only [tickB, mn, up_pos d0]; split <;> omega
        by_cases c4 : w ≤ i
        · have w1 : IntKind.i64.wrap (time + d) = time + d := w64_id (by omega) (by omega)
          simp -implicitDefEqProofs -dsimp (maxSteps := 10000000) only [af3_l0, ↓goes_loop, ↓goes_seq, ↓goes_reg, ↓goes_dreg, ↓goes_cond, ↓goes_block, ↓goes_skip, ↓goes_exit, ↓goes_ret, after_some, br_true, br_false, ↓then_normal, ↓then_exit, ↓then_ret, ↓blk_normal, ↓blk_exit, ↓blk_ret, ↓blk_other, ops_nil, ops_some, ops_none, oper_none, oper_some, gd_tt, gd_ff, gd_tf, gd_ft, ↓any_op, ↓any_call, ↓any_callV, ↓any_invoke, xo_t, xo_c, args_nil, args_cons, bin_add, bin_sub, bin_mul, bin_quo, bin_rem, bin_and, bin_or, bin_xor, bin_andNot, bin_eql, bin_neq, bin_lss, bin_leq, bin_gtr, bin_geq, bin_shl, bin_shr, bin_bools, bin_strs, bin_ptrs, bin_slices, bin_aggs, ↓Option.bind_some, ↓Option.map_some, ↓cond_true, ↓cond_false, evC, evOp, XO.lit, setArgs, Tr.get_set, Option.bind_some, Option.map_some, cond_true, cond_false, maxI, maxFrom, minI, minFrom, aConv, aBinE, aEq, eqScal, aUn, evRes, fin, oneOf, if_true, if_false, callee, reduceCtorEq, Nat.reduceEqDiff, and_self, decide_true, decide_false, beq_true, beq_false, Bool.not_true, Bool.not_false, List.getElem?_cons_zero, List.getElem?_cons_succ, beq_self_eq_true, gt_iff_lt, ble_dec, beq_dec, List.head?_cons, AV.undef, eq_self, ne_eq, not_true_eq_false, not_false_eq_true, Int.reduceLT, Int.reduceLE, Int.reduceToNat, Int.reduceEq, Int.reduceNeg, Nat.reduceAdd, Nat.reduceLT, Nat.reduceLeDiff, Nat.reduceMul, Nat.reduceSub, AV.cells, AV.tup, Bool.true_and, true_and, and_true, List.drop_nil, List.append_nil, rd_put, rd_alloc, rdO, St.get_put, St.get_alloc, St.next_put, St.next_alloc, St.wr, Bool.and_self, Bool.and_true, List.length_cons, List.length_nil, List.take_succ_cons, List.take_zero, List.drop_succ_cons, List.drop_zero, List.cons_append, List.nil_append, Nat.zero_add, Nat.add_zero, Nat.reduceMul, t2, t11, t13, t14, t15, c1, c2, hm, hix, hx, hz, m1, m18, hd, c3, c4, e10, w1, w2]
          refine ⟨n - 1, ⟨?_, ?_, ?_, ?_, ?_, e2, i + 1, took, time + d, (tickB ⟨r, u, l⟩ d).l, ?_, ?_, ?_, b2.same, ok2, by omega, by omega, by omega, by omega, by omega, by omega, by omega, ?_, by omega⟩, by simp only [id]; omega⟩
          rotate_right 1
          · rw [Int.mul_add]; omega
          all_goals simp only [Tr.get_set, Nat.reduceEqDiff, if_false, if_true, t2, t9, t10, t11, t12, t13, t14]
        · simp -implicitDefEqProofs -dsimp (maxSteps := 10000000) only [af3_l0, ↓goes_loop, ↓goes_seq, ↓goes_reg, ↓goes_dreg, ↓goes_cond, ↓goes_block, ↓goes_skip, ↓goes_exit, ↓goes_ret, after_some, br_true, br_false, ↓then_normal, ↓then_exit, ↓then_ret, ↓blk_normal, ↓blk_exit, ↓blk_ret, ↓blk_other, ops_nil, ops_some, ops_none, oper_none, oper_some, gd_tt, gd_ff, gd_tf, gd_ft, ↓any_op, ↓any_call, ↓any_callV, ↓any_invoke, xo_t, xo_c, args_nil, args_cons, bin_add, bin_sub, bin_mul, bin_quo, bin_rem, bin_and, bin_or, bin_xor, bin_andNot, bin_eql, bin_neq, bin_lss, bin_leq, bin_gtr, bin_geq, bin_shl, bin_shr, bin_bools, bin_strs, bin_ptrs, bin_slices, bin_aggs, ↓Option.bind_some, ↓Option.map_some, ↓cond_true, ↓cond_false, evC, evOp, XO.lit, setArgs, Tr.get_set, Option.bind_some, Option.map_some, cond_true, cond_false, maxI, maxFrom, minI, minFrom, aConv, aBinE, aEq, eqScal, aUn, evRes, fin, oneOf, if_true, if_false, callee, reduceCtorEq, Nat.reduceEqDiff, and_self, decide_true, decide_false, beq_true, beq_false, Bool.not_true, Bool.not_false, List.getElem?_cons_zero, List.getElem?_cons_succ, beq_self_eq_true, gt_iff_lt, ble_dec, beq_dec, List.head?_cons, AV.undef, eq_self, ne_eq, not_true_eq_false, not_false_eq_true, Int.reduceLT, Int.reduceLE, Int.reduceToNat, Int.reduceEq, Int.reduceNeg, Nat.reduceAdd, Nat.reduceLT, Nat.reduceLeDiff, Nat.reduceMul, Nat.reduceSub, AV.cells, AV.tup, Bool.true_and, true_and, and_true, List.drop_nil, List.append_nil, rd_put, rd_alloc, rdO, St.get_put, St.get_alloc, St.next_put, St.next_alloc, St.wr, Bool.and_self, Bool.and_true, List.length_cons, List.length_nil, List.take_succ_cons, List.take_zero, List.drop_succ_cons, List.drop_zero, List.cons_append, List.nil_append, Nat.zero_add, Nat.add_zero, Nat.reduceMul, t2, t11, t13, t14, t15, c1, c2, hm, hix, hx, hz, m1, m18, hd, c3, c4, e10, w2]
          refine ⟨n - 1, ⟨?_, ?_, ?_, ?_, ?_, e2, i + 1, took, time, (tickB ⟨r, u, l⟩ d).l, ?_, ?_, ?_, b2.same, ok2, by omega, by omega, by omega, by omega, by omega, by omega, by omega, by have := hw (by omega); omega, fun _ => hw (by omega)⟩, by simp only [id]; omega⟩ <;>
            simp only [Tr.get_set, Nat.reduceEqDiff, if_false, if_true, t2, t9, t10, t11, t12, t13, t14]
      · obtain ⟨e, he'⟩ : ∃ e, d % 4096 = e := ⟨_, rfl⟩
        have e0 : 0 ≤ e := by omega
        have e1 : e ≤ 4095 := by omega
        obtain ⟨S2, e11, b2⟩ := T11 (k + 195) ok gb (n := e) (wf_mk (by omega) (by omega))
        have ok2 := takeB_ok ok e
        have e2 : Ext Sb S2 := b2.ext he (Nat.le_refl _)
        have w3 : IntKind.i64.wrap (r * time) = r * time := w64_id (by omega) (by omega)
        have hl0 : 0 ≤ l := ok.l0
        by_cases cg : goB ⟨r, u, l⟩ e = true
        · have hge : e * 1000000 ≤ l := by simp only [goB, decide_eq_true_eq] at cg; exact cg.2
          rw [cg] at e11
          have hl2 : (takeB ⟨r, u, l⟩ e).l = l - e * 1000000 := by simp only [takeB, cg, if_true]
          have hb2 : takeB ⟨r, u, l⟩ e = ⟨r, u, l - e * 1000000⟩ := by simp only [takeB, cg, if_true]
          rw [hb2] at ok2 b2
          by_cases c4 : w ≤ i
          · have w1 : IntKind.i64.wrap (took + e) = took + e := w64_id (by omega) (by omega)
            obtain ⟨ov1, ov2, ov3⟩ := over_ok (x := r * time) (took := took + e) (u := u) hp (by omega) (by omega)
            have w4 : IntKind.i64.wrap (u + upq (up (r * time)) (up 1000000)) = u + upq (up (r * time)) (up 1000000) := w64_id (by omega) (by omega)
            have c5 : ¬ (u + upq (up (r * time)) (up 1000000) < took + e) := by omega
            simp -implicitDefEqProofs -dsimp (maxSteps := 10000000) only [af3_l0, ↓goes_loop, ↓goes_seq, ↓goes_reg, ↓goes_dreg, ↓goes_cond, ↓goes_block, ↓goes_skip, ↓goes_exit, ↓goes_ret, after_some, br_true, br_false, ↓then_normal, ↓then_exit, ↓then_ret, ↓blk_normal, ↓blk_exit, ↓blk_ret, ↓blk_other, ops_nil, ops_some, ops_none, oper_none, oper_some, gd_tt, gd_ff, gd_tf, gd_ft, ↓any_op, ↓any_call, ↓any_callV, ↓any_invoke, xo_t, xo_c, args_nil, args_cons, bin_add, bin_sub, bin_mul, bin_quo, bin_rem, bin_and, bin_or, bin_xor, bin_andNot, bin_eql, bin_neq, bin_lss, bin_leq, bin_gtr, bin_geq, bin_shl, bin_shr, bin_bools, bin_strs, bin_ptrs, bin_slices, bin_aggs, ↓Option.bind_some, ↓Option.map_some, ↓cond_true, ↓cond_false, evC, evOp, XO.lit, setArgs, Tr.get_set, Option.bind_some, Option.map_some, cond_true, cond_false, maxI, maxFrom, minI, minFrom, aConv, aBinE, aEq, eqScal, aUn, evRes, fin, oneOf, if_true, if_false, callee, reduceCtorEq, Nat.reduceEqDiff, and_self, decide_true, decide_false, beq_true, beq_false, Bool.not_true, Bool.not_false, List.getElem?_cons_zero, List.getElem?_cons_succ, beq_self_eq_true, gt_iff_lt, ble_dec, beq_dec, List.head?_cons, AV.undef, eq_self, ne_eq, not_true_eq_false, not_false_eq_true, Int.reduceLT, Int.reduceLE, Int.reduceToNat, Int.reduceEq, Int.reduceNeg, Nat.reduceAdd, Nat.reduceLT, Nat.reduceLeDiff, Nat.reduceMul, Nat.reduceSub, AV.cells, AV.tup, Bool.true_and, true_and, and_true, List.drop_nil, List.append_nil, rd_put, rd_alloc, rdO, St.get_put, St.get_alloc, St.next_put, St.next_alloc, St.wr, Bool.and_self, Bool.and_true, List.length_cons, List.length_nil, List.take_succ_cons, List.take_zero, List.drop_succ_cons, List.drop_zero, List.cons_append, List.nil_append, Nat.zero_add, Nat.add_zero, Nat.reduceMul, t2, t9, t10, t11, t12, t13, t14, t15, c1, c2, hm, hix, hx, hz, m1, m12, m18, hd, he', c3, c4, e11, w1, w2, w3, w4, c5, y12]
            refine ⟨n - 1, ⟨?_, ?_, ?_, ?_, ?_, e2, i + 1, took + e, time, l - e * 1000000, ?_, ?_, ?_, b2.same, ok2, by omega, by omega, by omega, by omega, by omega, by omega, by omega, by omega, by omega⟩, by simp only [id]; omega⟩ <;>
              simp only [Tr.get_set, Nat.reduceEqDiff, if_false, if_true, t2, t9, t10, t11, t12, t13, t14]
          · obtain ⟨ov1, ov2, ov3⟩ := over_ok (x := r * time) (took := took) (u := u) hp (by omega) (by omega)
            have w4 : IntKind.i64.wrap (u + upq (up (r * time)) (up 1000000)) = u + upq (up (r * time)) (up 1000000) := w64_id (by omega) (by omega)
            have c5 : ¬ (u + upq (up (r * time)) (up 1000000) < took) := by omega
            simp -implicitDefEqProofs -dsimp (maxSteps := 10000000) only [af3_l0, ↓goes_loop, ↓goes_seq, ↓goes_reg, ↓goes_dreg, ↓goes_cond, ↓goes_block, ↓goes_skip, ↓goes_exit, ↓goes_ret, after_some, br_true, br_false, ↓then_normal, ↓then_exit, ↓then_ret, ↓blk_normal, ↓blk_exit, ↓blk_ret, ↓blk_other, ops_nil, ops_some, ops_none, oper_none, oper_some, gd_tt, gd_ff, gd_tf, gd_ft, ↓any_op, ↓any_call, ↓any_callV, ↓any_invoke, xo_t, xo_c, args_nil, args_cons, bin_add, bin_sub, bin_mul, bin_quo, bin_rem, bin_and, bin_or, bin_xor, bin_andNot, bin_eql, bin_neq, bin_lss, bin_leq, bin_gtr, bin_geq, bin_shl, bin_shr, bin_bools, bin_strs, bin_ptrs, bin_slices, bin_aggs, ↓Option.bind_some, ↓Option.map_some, ↓cond_true, ↓cond_false, evC, evOp, XO.lit, setArgs, Tr.get_set, Option.bind_some, Option.map_some, cond_true, cond_false, maxI, maxFrom, minI, minFrom, aConv, aBinE, aEq, eqScal, aUn, evRes, fin, oneOf, if_true, if_false, callee, reduceCtorEq, Nat.reduceEqDiff, and_self, decide_true, decide_false, beq_true, beq_false, Bool.not_true, Bool.not_false, List.getElem?_cons_zero, List.getElem?_cons_succ, beq_self_eq_true, gt_iff_lt, ble_dec, beq_dec, List.head?_cons, AV.undef, eq_self, ne_eq, not_true_eq_false, not_false_eq_true, Int.reduceLT, Int.reduceLE, Int.reduceToNat, Int.reduceEq, Int.reduceNeg, Nat.reduceAdd, Nat.reduceLT, Nat.reduceLeDiff, Nat.reduceMul, Nat.reduceSub, AV.cells, AV.tup, Bool.true_and, true_and, and_true, List.drop_nil, List.append_nil, rd_put, rd_alloc, rdO, St.get_put, St.get_alloc, St.next_put, St.next_alloc, St.wr, Bool.and_self, Bool.and_true, List.length_cons, List.length_nil, List.take_succ_cons, List.take_zero, List.drop_succ_cons, List.drop_zero, List.cons_append, List.nil_append, Nat.zero_add, Nat.add_zero, Nat.reduceMul, t2, t9, t10, t11, t12, t13, t14, t15, c1, c2, hm, hix, hx, hz, m1, m12, m18, hd, he', c3, c4, e11, w2, w3, w4, c5, y12]
            refine ⟨n - 1, ⟨?_, ?_, ?_, ?_, ?_, e2, i + 1, took, time, l - e * 1000000, ?_, ?_, ?_, b2.same, ok2, by omega, by omega, by omega, by omega, by omega, by omega, by omega, by omega, fun _ => hw (by omega)⟩, by simp only [id]; omega⟩ <;>
              simp only [Tr.get_set, Nat.reduceEqDiff, if_false, if_true, t2, t9, t10, t11, t12, t13, t14]
        · have cg' : goB ⟨r, u, l⟩ e = false := by simpa using cg
          rw [cg'] at e11
          have hb2 : takeB ⟨r, u, l⟩ e = ⟨r, u, l⟩ := by simp only [takeB, cg', Bool.false_eq_true, if_false]
          rw [hb2] at ok2 b2
          obtain ⟨ov1, ov2, ov3⟩ := over_ok (x := r * time) (took := took) (u := u) hp (by omega) (by omega)
          have w4 : IntKind.i64.wrap (u + upq (up (r * time)) (up 1000000)) = u + upq (up (r * time)) (up 1000000) := w64_id (by omega) (by omega)
          have c5 : ¬ (u + upq (up (r * time)) (up 1000000) < took) := by omega
          simp -implicitDefEqProofs -dsimp (maxSteps := 10000000) only [af3_l0, ↓goes_loop, ↓goes_seq, ↓goes_reg, ↓goes_dreg, ↓goes_cond, ↓goes_block, ↓goes_skip, ↓goes_exit, ↓goes_ret, after_some, br_true, br_false, ↓then_normal, ↓then_exit, ↓then_ret, ↓blk_normal, ↓blk_exit, ↓blk_ret, ↓blk_other, ops_nil, ops_some, ops_none, oper_none, oper_some, gd_tt, gd_ff, gd_tf, gd_ft, ↓any_op, ↓any_call, ↓any_callV, ↓any_invoke, xo_t, xo_c, args_nil, args_cons, bin_add, bin_sub, bin_mul, bin_quo, bin_rem, bin_and, bin_or, bin_xor, bin_andNot, bin_eql, bin_neq, bin_lss, bin_leq, bin_gtr, bin_geq, bin_shl, bin_shr, bin_bools, bin_strs, bin_ptrs, bin_slices, bin_aggs, ↓Option.bind_some, ↓Option.map_some, ↓cond_true, ↓cond_false, evC, evOp, XO.lit, setArgs, Tr.get_set, Option.bind_some, Option.map_some, cond_true, cond_false, maxI, maxFrom, minI, minFrom, aConv, aBinE, aEq, eqScal, aUn, evRes, fin, oneOf, if_true, if_false, callee, reduceCtorEq, Nat.reduceEqDiff, and_self, decide_true, decide_false, beq_true, beq_false, Bool.not_true, Bool.not_false, List.getElem?_cons_zero, List.getElem?_cons_succ, beq_self_eq_true, gt_iff_lt, ble_dec, beq_dec, List.head?_cons, AV.undef, eq_self, ne_eq, not_true_eq_false, not_false_eq_true, Int.reduceLT, Int.reduceLE, Int.reduceToNat, Int.reduceEq, Int.reduceNeg, Nat.reduceAdd, Nat.reduceLT, Nat.reduceLeDiff, Nat.reduceMul, Nat.reduceSub, AV.cells, AV.tup, Bool.true_and, true_and, and_true, List.drop_nil, List.append_nil, rd_put, rd_alloc, rdO, St.get_put, St.get_alloc, St.next_put, St.next_alloc, St.wr, Bool.and_self, Bool.and_true, List.length_cons, List.length_nil, List.take_succ_cons, List.take_zero, List.drop_succ_cons, List.drop_zero, List.cons_append, List.nil_append, Nat.zero_add, Nat.add_zero, Nat.reduceMul, t2, t9, t10, t11, t12, t13, t14, t15, c1, c2, hm, hix, hx, hz, m1, m12, m18, hd, he', c3, e11, w2, w3, w4, c5, y12]
          refine ⟨n - 1, ⟨?_, ?_, ?_, ?_, ?_, e2, i + 1, took, time, l, ?_, ?_, ?_, b2.same, ok2, by omega, by omega, by omega, by omega, by omega, by omega, by omega, by omega, fun _ => hw (by omega)⟩, by simp only [id]; omega⟩ <;>
            simp only [Tr.get_set, Nat.reduceEqDiff, if_false, if_true, t2, t9, t10, t11, t12, t13, t14]
    · simp -implicitDefEqProofs -dsimp (maxSteps := 10000000) only [af3_l0, ↓goes_loop, ↓goes_seq, ↓goes_reg, ↓goes_dreg, ↓goes_cond, ↓goes_block, ↓goes_skip, ↓goes_exit, ↓goes_ret, after_some, br_true, br_false, ↓then_normal, ↓then_exit, ↓then_ret, ↓blk_normal, ↓blk_exit, ↓blk_ret, ↓blk_other, ops_nil, ops_some, ops_none, oper_none, oper_some, gd_tt, gd_ff, gd_tf, gd_ft, ↓any_op, ↓any_call, ↓any_callV, ↓any_invoke, xo_t, xo_c, args_nil, args_cons, bin_add, bin_sub, bin_mul, bin_quo, bin_rem, bin_and, bin_or, bin_xor, bin_andNot, bin_eql, bin_neq, bin_lss, bin_leq, bin_gtr, bin_geq, bin_shl, bin_shr, bin_bools, bin_strs, bin_ptrs, bin_slices, bin_aggs, ↓Option.bind_some, ↓Option.map_some, ↓cond_true, ↓cond_false, evC, evOp, XO.lit, setArgs, Tr.get_set, Option.bind_some, Option.map_some, cond_true, cond_false, maxI, maxFrom, minI, minFrom, aConv, aBinE, aEq, eqScal, aUn, evRes, fin, oneOf, if_true, if_false, callee, reduceCtorEq, Nat.reduceEqDiff, and_self, decide_true, decide_false, beq_true, beq_false, Bool.not_true, Bool.not_false, List.getElem?_cons_zero, List.getElem?_cons_succ, beq_self_eq_true, gt_iff_lt, ble_dec, beq_dec, List.head?_cons, AV.undef, eq_self, ne_eq, not_true_eq_false, not_false_eq_true, Int.reduceLT, Int.reduceLE, Int.reduceToNat, Int.reduceEq, Int.reduceNeg, Nat.reduceAdd, Nat.reduceLT, Nat.reduceLeDiff, Nat.reduceMul, Nat.reduceSub, AV.cells, AV.tup, Bool.true_and, true_and, and_true, List.drop_nil, List.append_nil, rd_put, rd_alloc, rdO, St.get_put, St.get_alloc, St.next_put, St.next_alloc, St.wr, Bool.and_self, Bool.and_true, List.length_cons, List.length_nil, List.take_succ_cons, List.take_zero, List.drop_succ_cons, List.drop_zero, List.cons_append, List.nil_append, Nat.zero_add, Nat.add_zero, Nat.reduceMul, t2, t15, c1, c2, hm]
      refine ⟨n, ?_, ?_, ?_, ?_, ?_, he, i, took, time, l, ?_, ?_, ?_, gb, ok, i0, i1, hn, k0, k1, m0, m1', hle, hw⟩ <;>
        simp only [Tr.get_set, Nat.reduceEqDiff, if_false, if_true, t2, t9, t10, t11, t12, t13, t14, t15]
  · simp -implicitDefEqProofs -dsimp (maxSteps := 10000000) only [af3_l0, ↓goes_loop, ↓goes_seq, ↓goes_reg, ↓goes_dreg, ↓goes_cond, ↓goes_block, ↓goes_skip, ↓goes_exit, ↓goes_ret, after_some, br_true, br_false, ↓then_normal, ↓then_exit, ↓then_ret, ↓blk_normal, ↓blk_exit, ↓blk_ret, ↓blk_other, ops_nil, ops_some, ops_none, oper_none, oper_some, gd_tt, gd_ff, gd_tf, gd_ft, ↓any_op, ↓any_call, ↓any_callV, ↓any_invoke, xo_t, xo_c, args_nil, args_cons, bin_add, bin_sub, bin_mul, bin_quo, bin_rem, bin_and, bin_or, bin_xor, bin_andNot, bin_eql, bin_neq, bin_lss, bin_leq, bin_gtr, bin_geq, bin_shl, bin_shr, bin_bools, bin_strs, bin_ptrs, bin_slices, bin_aggs, ↓Option.bind_some, ↓Option.map_some, ↓cond_true, ↓cond_false, evC, evOp, XO.lit, setArgs, Tr.get_set, Option.bind_some, Option.map_some, cond_true, cond_false, maxI, maxFrom, minI, minFrom, aConv, aBinE, aEq, eqScal, aUn, evRes, fin, oneOf, if_true, if_false, callee, reduceCtorEq, Nat.reduceEqDiff, and_self, decide_true, decide_false, beq_true, beq_false, Bool.not_true, Bool.not_false, List.getElem?_cons_zero, List.getElem?_cons_succ, beq_self_eq_true, gt_iff_lt, ble_dec, beq_dec, List.head?_cons, AV.undef, eq_self, ne_eq, not_true_eq_false, not_false_eq_true, Int.reduceLT, Int.reduceLE, Int.reduceToNat, Int.reduceEq, Int.reduceNeg, Nat.reduceAdd, Nat.reduceLT, Nat.reduceLeDiff, Nat.reduceMul, Nat.reduceSub, AV.cells, AV.tup, Bool.true_and, true_and, and_true, List.drop_nil, List.append_nil, rd_put, rd_alloc, rdO, St.get_put, St.get_alloc, St.next_put, St.next_alloc, St.wr, Bool.and_self, Bool.and_true, List.length_cons, List.length_nil, List.take_succ_cons, List.take_zero, List.drop_succ_cons, List.drop_zero, List.cons_append, List.nil_append, Nat.zero_add, Nat.add_zero, Nat.reduceMul, t2, t15, c1, hm]
    refine ⟨n, ?_, ?_, ?_, ?_, ?_, he, i, took, time, l, ?_, ?_, ?_, gb, ok, i0, i1, hn, k0, k1, m0, m1', hle, hw⟩ <;>
      simp only [Tr.get_set, Nat.reduceEqDiff, if_false, if_true, t2, t9, t10, t11, t12, t13, t14, t15]
set_option maxHeartbeats 8000000 in
theorem ev3 (k : Nat) (a b c : Int) {p : Option (Nat × Nat × Nat)} {len : Nat} {S : St} (h : Sl S p len [.int .i64, .int .i64]) :
    ∃ S', evF Y AP (k + 200) 3 [.int .i64 a, .int .i64 b, .slice p len 2 none, .int .i64 c] S = some (.bool true, S') := by
  suffices hs : ∃ v S', evF Y AP (k + 200) 3 [.int .i64 a, .int .i64 b, .slice p len 2 none, .int .i64 c] S = some (v, S') ∧ v = .bool true by
    obtain ⟨v, S', h1, rfl⟩ := hs; exact ⟨S', h1⟩
  obtain ⟨r, hr⟩ : ∃ r, a % 1048576 = r := ⟨_, rfl⟩
  obtain ⟨u, hu⟩ : ∃ u, b % 16384 = u := ⟨_, rfl⟩
  have r0 : 0 ≤ r := by omega
  have r1 : r ≤ 1048575 := by omega
  have u0 : 0 ≤ u := by omega
  have u1 : u ≤ 16383 := by omega
  have hB : newB r u = ⟨r, u, u * 1000000⟩ := by simp only [newB, held_id r0 (show r ≤ 1099511627776 by omega), held_id u0 (show u ≤ 1099511627776 by omega)]
  obtain ⟨S1, e1, b1⟩ := T8 (S := S) (k + 195) r u
  rw [hB] at b1
  have ok0 : OkB ⟨r, u, u * 1000000⟩ := hB ▸ newB_ok r u
  have e9 := T9 (k + 195) S1 (n := c) (lo := 0) (hi := 40) (by decide) (by decide) (by decide)
  obtain ⟨w, hw⟩ : ∃ w, within c 0 40 = w := ⟨_, rfl⟩
  have hwb := within_bd c (show (0:Int) ≤ 40 by decide)
  rw [hw] at e9 hwb
  refine evF_goes (af := af3) (k := k + 199) rfl rfl rfl ?_
  simp -implicitDefEqProofs -dsimp (maxSteps := 10000000) only [af3, ↓goes_loop, ↓goes_seq, ↓goes_reg, ↓goes_dreg, ↓goes_cond, ↓goes_block, ↓goes_skip, ↓goes_exit, ↓goes_ret, after_some, br_true, br_false, ↓then_normal, ↓then_exit, ↓then_ret, ↓blk_normal, ↓blk_exit, ↓blk_ret, ↓blk_other, ops_nil, ops_some, ops_none, oper_none, oper_some, gd_tt, gd_ff, gd_tf, gd_ft, ↓any_op, ↓any_call, ↓any_callV, ↓any_invoke, xo_t, xo_c, args_nil, args_cons, bin_add, bin_sub, bin_mul, bin_quo, bin_rem, bin_and, bin_or, bin_xor, bin_andNot, bin_eql, bin_neq, bin_lss, bin_leq, bin_gtr, bin_geq, bin_shl, bin_shr, bin_bools, bin_strs, bin_ptrs, bin_slices, bin_aggs, ↓Option.bind_some, ↓Option.map_some, ↓cond_true, ↓cond_false, evC, evOp, XO.lit, setArgs, Tr.tabG, Tr.tabS, Tr.tabL, Tr.get_lf, Option.bind_some, Option.map_some, cond_true, cond_false, maxI, maxFrom, minI, minFrom, aConv, aBinE, aEq, eqScal, aUn, evRes, fin, oneOf, if_true, if_false, callee, reduceCtorEq, Nat.reduceEqDiff, and_self, decide_true, decide_false, beq_true, beq_false, Bool.not_true, Bool.not_false, List.getElem?_cons_zero, List.getElem?_cons_succ, beq_self_eq_true, gt_iff_lt, ble_dec, beq_dec, List.head?_cons, AV.undef, eq_self, ne_eq, not_true_eq_false, not_false_eq_true, Int.reduceLT, Int.reduceLE, Int.reduceToNat, Int.reduceEq, Int.reduceNeg, Nat.reduceAdd, Nat.reduceLT, Nat.reduceLeDiff, Nat.reduceMul, Nat.reduceSub, AV.cells, AV.tup, Bool.true_and, true_and, and_true, List.drop_nil, List.append_nil, rd_put, rd_alloc, rdO, St.get_put, St.get_alloc, St.next_put, St.next_alloc, St.wr, Bool.and_self, Bool.and_true, List.length_cons, List.length_nil, List.take_succ_cons, List.take_zero, List.drop_succ_cons, List.drop_zero, List.cons_append, List.nil_append, Nat.zero_add, Nat.add_zero, Nat.reduceMul, m20, m14, hr, hu, e1, e9, aBinE, aEq, Option.isNone_some]
  refine .while (I3 r u w p len S) id 100 ?_ (by show 100 < k + 199; omega) fun n2 T2 S2 h2 => (round3 k r u w r0 r1 u0 u1 h n2 T2 S2 h2).mono ?_
  · exact ⟨rfl, rfl, rfl, rfl, rfl, b1.ext, 0, 0, 0, u * 1000000, rfl, rfl, rfl, b1.same, ok0, by decide, by decide, rfl, by decide, by decide, by decide, by decide, by omega, fun _ => rfl⟩
  · intro q T' S' hr'
    cases q with
    | normal => exact hr'
    | ret => exact absurd hr'.1 (by intro h; cases h)
    | exit id =>
      obtain ⟨hid, n', t2, t9, t10, t11, t14, he, i, took, time, l, t15, t12, t13, gb, ok, i0, i1, hn, k0, k1, m0, m1', hle, hw⟩ := hr'
      cases hid
      obtain ⟨m, hm⟩ : ∃ m, (if (100 : Int) < u then 100 else u) = m := ⟨_, rfl⟩
      have hm0 : 0 ≤ m ∧ m ≤ u ∧ m ≤ 100 := by rw [← hm]; split <;> omega
      have e13 := T13 (k + 195) ok gb (n := m) (wf_mk (by omega) (by omega))
      have hl0 := ok.l0
      dsimp only at hl0
      by_cases c1 : m * 1000000 ≤ l
      · have hwt : waitB ⟨r, u, l⟩ m = 0 := by simp only [waitB]; rw [if_neg (by omega), if_pos c1]
        rw [hwt] at e13
        obtain ⟨S5, e10, b5⟩ := T10 (k + 195) ok gb 0
        have hg5 : tickB ⟨r, u, l⟩ 0 = ⟨r, u, l⟩ := by
          have := ok.l1
          dsimp only at this
          simp only [tickB, up, Int.lt_irrefl, if_false, Int.mul_zero, Int.add_zero, mn, if_neg (show ¬ u * 1000000 < l by omega)]
        rw [hg5] at b5
        obtain ⟨S6, e11, b6⟩ := T11 (k + 195) ok b5.same (n := m) (wf_mk (by omega) (by omega))
        have hg : goB ⟨r, u, l⟩ m = true := by simp only [goB, decide_eq_true_eq]; omega
        rw [hg] at e11
        simp -implicitDefEqProofs -dsimp (maxSteps := 10000000) only [↓goes_loop, ↓goes_seq, ↓goes_reg, ↓goes_dreg, ↓goes_cond, ↓goes_block, ↓goes_skip, ↓goes_exit, ↓goes_ret, after_some, br_true, br_false, ↓then_normal, ↓then_exit, ↓then_ret, ↓blk_normal, ↓blk_exit, ↓blk_ret, ↓blk_other, ops_nil, ops_some, ops_none, oper_none, oper_some, gd_tt, gd_ff, gd_tf, gd_ft, ↓any_op, ↓any_call, ↓any_callV, ↓any_invoke, xo_t, xo_c, args_nil, args_cons, bin_add, bin_sub, bin_mul, bin_quo, bin_rem, bin_and, bin_or, bin_xor, bin_andNot, bin_eql, bin_neq, bin_lss, bin_leq, bin_gtr, bin_geq, bin_shl, bin_shr, bin_bools, bin_strs, bin_ptrs, bin_slices, bin_aggs, ↓Option.bind_some, ↓Option.map_some, ↓cond_true, ↓cond_false, evC, evOp, XO.lit, setArgs, Tr.get_set, Option.bind_some, Option.map_some, cond_true, cond_false, maxI, maxFrom, minI, minFrom, aConv, aBinE, aEq, eqScal, aUn, evRes, fin, oneOf, if_true, if_false, callee, reduceCtorEq, Nat.reduceEqDiff, and_self, decide_true, decide_false, beq_true, beq_false, Bool.not_true, Bool.not_false, List.getElem?_cons_zero, List.getElem?_cons_succ, beq_self_eq_true, gt_iff_lt, ble_dec, beq_dec, List.head?_cons, AV.undef, eq_self, ne_eq, not_true_eq_false, not_false_eq_true, Int.reduceLT, Int.reduceLE, Int.reduceToNat, Int.reduceEq, Int.reduceNeg, Nat.reduceAdd, Nat.reduceLT, Nat.reduceLeDiff, Nat.reduceMul, Nat.reduceSub, AV.cells, AV.tup, Bool.true_and, true_and, and_true, List.drop_nil, List.append_nil, rd_put, rd_alloc, rdO, St.get_put, St.get_alloc, St.next_put, St.next_alloc, St.wr, Bool.and_self, Bool.and_true, List.length_cons, List.length_nil, List.take_succ_cons, List.take_zero, List.drop_succ_cons, List.drop_zero, List.cons_append, List.nil_append, Nat.zero_add, Nat.add_zero, Nat.reduceMul, t9, t10, t11, hm, e13, e10, e11, y14]
        exact ⟨_, _, rfl, rfl⟩
      · by_cases c2 : r = 0
        · have hwt : waitB ⟨r, u, l⟩ m = -1 := by simp only [waitB]; rw [if_neg (by omega), if_neg c1, if_pos c2]
          rw [hwt] at e13
          simp -implicitDefEqProofs -dsimp (maxSteps := 10000000) only [↓goes_loop, ↓goes_seq, ↓goes_reg, ↓goes_dreg, ↓goes_cond, ↓goes_block, ↓goes_skip, ↓goes_exit, ↓goes_ret, after_some, br_true, br_false, ↓then_normal, ↓then_exit, ↓then_ret, ↓blk_normal, ↓blk_exit, ↓blk_ret, ↓blk_other, ops_nil, ops_some, ops_none, oper_none, oper_some, gd_tt, gd_ff, gd_tf, gd_ft, ↓any_op, ↓any_call, ↓any_callV, ↓any_invoke, xo_t, xo_c, args_nil, args_cons, bin_add, bin_sub, bin_mul, bin_quo, bin_rem, bin_and, bin_or, bin_xor, bin_andNot, bin_eql, bin_neq, bin_lss, bin_leq, bin_gtr, bin_geq, bin_shl, bin_shr, bin_bools, bin_strs, bin_ptrs, bin_slices, bin_aggs, ↓Option.bind_some, ↓Option.map_some, ↓cond_true, ↓cond_false, evC, evOp, XO.lit, setArgs, Tr.get_set, Option.bind_some, Option.map_some, cond_true, cond_false, maxI, maxFrom, minI, minFrom, aConv, aBinE, aEq, eqScal, aUn, evRes, fin, oneOf, if_true, if_false, callee, reduceCtorEq, Nat.reduceEqDiff, and_self, decide_true, decide_false, beq_true, beq_false, Bool.not_true, Bool.not_false, List.getElem?_cons_zero, List.getElem?_cons_succ, beq_self_eq_true, gt_iff_lt, ble_dec, beq_dec, List.head?_cons, AV.undef, eq_self, ne_eq, not_true_eq_false, not_false_eq_true, Int.reduceLT, Int.reduceLE, Int.reduceToNat, Int.reduceEq, Int.reduceNeg, Nat.reduceAdd, Nat.reduceLT, Nat.reduceLeDiff, Nat.reduceMul, Nat.reduceSub, AV.cells, AV.tup, Bool.true_and, true_and, and_true, List.drop_nil, List.append_nil, rd_put, rd_alloc, rdO, St.get_put, St.get_alloc, St.next_put, St.next_alloc, St.wr, Bool.and_self, Bool.and_true, List.length_cons, List.length_nil, List.take_succ_cons, List.take_zero, List.drop_succ_cons, List.drop_zero, List.cons_append, List.nil_append, Nat.zero_add, Nat.add_zero, Nat.reduceMul, t9, t10, t11, hm, e13, c2, y14]
          exact ⟨_, _, rfl, rfl⟩
        · have hwt : waitB ⟨r, u, l⟩ m = upq (m * 1000000 - l) r := by simp only [waitB]; rw [if_neg (by omega), if_neg c1, if_neg c2]
          obtain ⟨q0, q1, q2⟩ := upq_bd (x := m * 1000000 - l) (y := r) (by omega) r0
          obtain ⟨q2, q3⟩ := q2 (by omega)
          rw [hwt] at e13
          obtain ⟨q, hq⟩ : ∃ q, upq (m * 1000000 - l) r = q := ⟨_, rfl⟩
          rw [hq] at q0 q1 q2 q3 e13
          obtain ⟨S5, e10, b5⟩ := T10 (k + 195) ok gb q
          have ok5 := tickB_ok ok q
          obtain ⟨S6, e11, b6⟩ := T11 (k + 195) ok5 b5.same (n := m) (wf_mk (by omega) (by omega))
          have hg : goB (tickB ⟨r, u, l⟩ q) m = true := by
            simp only [goB, decide_eq_true_eq, tickB, mn, up_pos q0]
            rw [Int.mul_comm r q]
            refine ⟨by omega, ?_⟩
            split <;> omega
          rw [hg] at e11
          have c3 : ¬ q < 0 := by omega
          simp -implicitDefEqProofs -dsimp (maxSteps := 10000000) only [↓goes_loop, ↓goes_seq, ↓goes_reg, ↓goes_dreg, ↓goes_cond, ↓goes_block, ↓goes_skip, ↓goes_exit, ↓goes_ret, after_some, br_true, br_false, ↓then_normal, ↓then_exit, ↓then_ret, ↓blk_normal, ↓blk_exit, ↓blk_ret, ↓blk_other, ops_nil, ops_some, ops_none, oper_none, oper_some, gd_tt, gd_ff, gd_tf, gd_ft, ↓any_op, ↓any_call, ↓any_callV, ↓any_invoke, xo_t, xo_c, args_nil, args_cons, bin_add, bin_sub, bin_mul, bin_quo, bin_rem, bin_and, bin_or, bin_xor, bin_andNot, bin_eql, bin_neq, bin_lss, bin_leq, bin_gtr, bin_geq, bin_shl, bin_shr, bin_bools, bin_strs, bin_ptrs, bin_slices, bin_aggs, ↓Option.bind_some, ↓Option.map_some, ↓cond_true, ↓cond_false, evC, evOp, XO.lit, setArgs, Tr.get_set, Option.bind_some, Option.map_some, cond_true, cond_false, maxI, maxFrom, minI, minFrom, aConv, aBinE, aEq, eqScal, aUn, evRes, fin, oneOf, if_true, if_false, callee, reduceCtorEq, Nat.reduceEqDiff, and_self, decide_true, decide_false, beq_true, beq_false, Bool.not_true, Bool.not_false, List.getElem?_cons_zero, List.getElem?_cons_succ, beq_self_eq_true, gt_iff_lt, ble_dec, beq_dec, List.head?_cons, AV.undef, eq_self, ne_eq, not_true_eq_false, not_false_eq_true, Int.reduceLT, Int.reduceLE, Int.reduceToNat, Int.reduceEq, Int.reduceNeg, Nat.reduceAdd, Nat.reduceLT, Nat.reduceLeDiff, Nat.reduceMul, Nat.reduceSub, AV.cells, AV.tup, Bool.true_and, true_and, and_true, List.drop_nil, List.append_nil, rd_put, rd_alloc, rdO, St.get_put, St.get_alloc, St.next_put, St.next_alloc, St.wr, Bool.and_self, Bool.and_true, List.length_cons, List.length_nil, List.take_succ_cons, List.take_zero, List.drop_succ_cons, List.drop_zero, List.cons_append, List.nil_append, Nat.zero_add, Nat.add_zero, Nat.reduceMul, t9, t10, t11, hm, e13, c3, e10, e11, y14]
          exact ⟨_, _, rfl, rfl⟩
theorem law3 {a b c : Int} (_ : (Lit.int .i64 a).wf = true) (_ : (Lit.int .i64 b).wf = true) {p : Option (Nat × Nat × Nat)} {len : Nat} {xs : List AV} (h : Arg p 0 len [.int .i64, .int .i64] xs) (_ : (Lit.int .i64 c).wf = true) :
    ∃ S', evF Y AP (0 + 200) 3 [.int .i64 a, .int .i64 b, .slice p len 2 none, .int .i64 c] (S0.alloc (.cells xs 0 0 false)) = some (.bool true, S') :=
  ev3 0 a b c (.of_arg h rfl (by show 0 < 1; decide))
end Go.Proofs.YteeijgjibdhkeaaA
