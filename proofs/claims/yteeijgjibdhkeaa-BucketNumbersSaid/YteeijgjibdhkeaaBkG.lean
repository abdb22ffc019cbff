/- Chapter 10: tokens come and go as the document says. -/
import Derived.Test.YteeijgjibdhkeaaBkF
import Derived.Test.YteeijgjibdhkeaaAeS8
set_option linter.unusedVariables false
set_option linter.unusedSimpArgs false
set_option maxRecDepth 10000
namespace Go.Proofs.YteeijgjibdhkeaaA
open Go.RowKit
attribute [local congr] bind_congr1 map_congr1 cond_congr1 withX_congr after_congr br_congr gd_congr

structure I6 (a b : Int) (p : Option (Nat × Nat × Nat)) (len : Nat) (Sb : St) (n : Nat) (T : Tm) (S : St) : Prop where
  t0 : T.get 0 = some (.int .i64 a)
  t1 : T.get 1 = some (.int .i64 b)
  t2 : T.get 2 = some (.slice p len 2 none)
  t12 : T.get 12 = some (.int .i64 len)
  ext : Ext Sb S
  more : ∃ (i : Int) (q : Option (Nat × Nat × Nat)) (e : Nat) (c : List AV), T.get 13 = some (.int .i64 i) ∧ T.get 7 = some (.slice q i.toNat e none) ∧ Vec S q i.toNat 2 e c ∧ (∀ o v j, q = some (o, v, j) → Sb.next ≤ o) ∧
    (∀ j, j < i.toNat → Scs [.int .i64, .int .i64] ((c.drop (j * 2)).take 2)) ∧ 0 ≤ i ∧ i ≤ len ∧ (n : Int) = len - i
set_option maxHeartbeats 8000000 in
theorem round6 (k : Nat) (a b : Int) {p : Option (Nat × Nat × Nat)} {len : Nat} {Sb : St} (h : Sl Sb p len [.int .i64, .int .i64]) (hr : len * 16 ≤ 140737488351232) (n : Nat) (T : Tm) (S : St) (hI : I6 a b p len Sb n T S) :
    Goes (evF Y AP (k + 299)) (k + 299) af6_l0 T S (Then (fun T' S' => ∃ n', I6 a b p len Sb n' T' S' ∧ id n' < id n) fun q T' S' => q = .exit 0 ∧ ∃ n', I6 a b p len Sb n' T' S') := by
  have hm := h.max
  obtain ⟨t0, t1, t2, t12, he, i, q, e, c, t13, t7, hv, ho, hsc, i0, i1, hn⟩ := hI
  by_cases c1 : i < len
  · obtain ⟨ob, v, j, rfl, hob⟩ := h.at_ (by omega)
    obtain ⟨x, z, _, hx0, hz0, hxw, hzw⟩ := h.two i0 c1
    obtain ⟨x, rfl, wx⟩ := Sc.of_int hxw
    obtain ⟨z, rfl, wz⟩ := Sc.of_int hzw
    have hx : S.rd ob v (j + i.toNat * 2) 1 = some [.int .i64 x] := by rw [he.rd hob]; exact hx0
    have hz : S.rd ob v (j + i.toNat * 2 + 1) 1 = some [.int .i64 z] := by rw [he.rd hob]; exact hz0
    have hix : ixOf (.int .i64 i) len = some i.toNat := ix_ok i0 c1
    have w2 : IntKind.i64.wrap (i + 1) = i + 1 := w64_id (by omega) (by omega)
    have e9 := T9 (k + 295) S (n := x) (lo := 0) (hi := 5) (by decide) (by decide) (by decide)
    obtain ⟨kd, hkd⟩ : ∃ kd, within x 0 5 = kd := ⟨_, rfl⟩
    have hkb := within_bd x (show (0:Int) ≤ 5 by decide)
    rw [hkd] at e9 hkb
    have step : ∀ y : Int, 0 ≤ y → y ≤ 262143 → ∃ q' S2, aAppend 2 16 (S.alloc (.cells [.int .i64 kd, .int .i64 y] 0 0 true)) (.slice q i.toNat e none) 1 [.int .i64 kd, .int .i64 y] = some (.slice q' (i.toNat + 1) 2 none, S2) ∧
        Vec S2 q' (i.toNat + 1) 2 2 (c ++ [.int .i64 kd, .int .i64 y]) ∧ Ext Sb S2 ∧ (∀ o v j, q' = some (o, v, j) → Sb.next ≤ o) ∧ (∀ j, j < i.toNat + 1 → Scs [.int .i64, .int .i64] (((c ++ ([.int .i64 kd, .int .i64 y] : List AV)).drop (j * 2)).take 2)) := by
      intro y y0 y1
      have hsx : Scs [.int .i64, .int .i64] [.int .i64 kd, .int .i64 y] := ⟨⟨rfl, mk_i64 (by omega) (by omega)⟩, ⟨rfl, mk_i64 (by omega) (by omega)⟩, trivial⟩
      have hve : Vec (S.alloc (.cells [.int .i64 kd, .int .i64 y] 0 0 true)) q i.toNat 2 e c := hv.ext (.alloc _ _)
      obtain ⟨q', S2, hap, hv2, hg2, hq2⟩ := hve.append (bytes := 16) (xs := [.int .i64 kd, .int .i64 y]) (n := 1) rfl (by decide) (by omega)
      refine ⟨q', S2, hap, hv2, ⟨Nat.le_trans (Nat.le_trans he.next (Nat.le_succ _)) hg2.next, fun o' h' => ?_⟩, fun o' v' j' hq => ?_, Scs_snoc (ks := [.int .i64, .int .i64]) hv.sz hsc hsx⟩
      · have hn := he.next
        rw [hg2.old o' (by show o' < S.next + 1; omega) (fun v' j' hq => by have := ho _ _ _ hq; omega), St.get_alloc, if_neg (by omega)]
        exact he.old o' h'
      · rcases hq2 o' v' j' hq with hq | ⟨v2, j2, hq⟩
        · have := he.next
          have : S.next + 1 ≤ o' := hq
          omega
        · exact ho _ _ _ hq
    have e1 : (i + 1).toNat = i.toNat + 1 := by omega
    have hrd : ∀ y : Int, ∀ v i m, (S.alloc (.cells [.int .i64 kd, .int .i64 y] 0 0 true)).rd S.next v i m = rdO (.cells [.int .i64 kd, .int .i64 y] 0 0 true) v i m := fun y v i m => by rw [rd_alloc, if_pos rfl]
    by_cases c3 : 1 < kd
    · by_cases c4 : kd < 5
      · obtain ⟨q', S2, hap, hv2, ex, hq, hs⟩ := step (z % 4096) (by omega) (by omega)
        simp -implicitDefEqProofs -dsimp (maxSteps := 10000000) only [af6_l0, ↓goes_loop, ↓goes_seq, ↓goes_reg, ↓goes_dreg, ↓goes_cond, ↓goes_block, ↓goes_skip, ↓goes_exit, ↓goes_ret, after_some, br_true, br_false, ↓then_normal, ↓then_exit, ↓then_ret, ↓blk_normal, ↓blk_exit, ↓blk_ret, ↓blk_other, ops_nil, ops_some, ops_none, oper_none, oper_some, gd_tt, gd_ff, gd_tf, gd_ft, ↓any_op, ↓any_call, ↓any_callV, ↓any_invoke, xo_t, xo_c, args_nil, args_cons, bin_add, bin_sub, bin_mul, bin_quo, bin_rem, bin_and, bin_or, bin_xor, bin_andNot, bin_eql, bin_neq, bin_lss, bin_leq, bin_gtr, bin_geq, bin_shl, bin_shr, bin_bools, bin_strs, bin_ptrs, bin_slices, bin_aggs, ↓Option.bind_some, ↓Option.map_some, ↓cond_true, ↓cond_false, evC, evOp, XO.lit, setArgs, Tr.get_set, Option.bind_some, Option.map_some, cond_true, cond_false, maxI, maxFrom, minI, minFrom, aConv, aBinE, aEq, eqScal, aUn, evRes, fin, oneOf, if_true, if_false, callee, reduceCtorEq, Nat.reduceEqDiff, and_self, decide_true, decide_false, beq_true, beq_false, Bool.not_true, Bool.not_false, List.getElem?_cons_zero, List.getElem?_cons_succ, beq_self_eq_true, gt_iff_lt, ble_dec, beq_dec, List.head?_cons, AV.undef, eq_self, ne_eq, not_true_eq_false, not_false_eq_true, Int.reduceLT, Int.reduceLE, Int.reduceToNat, Int.reduceEq, Int.reduceNeg, Nat.reduceAdd, Nat.reduceLT, Nat.reduceLeDiff, Nat.reduceMul, Nat.reduceSub, AV.cells, AV.tup, Bool.true_and, true_and, and_true, List.drop_nil, List.append_nil, rd_put, rd_alloc, rdO, St.get_put, St.get_alloc, St.next_put, St.next_alloc, St.wr, Bool.and_self, Bool.and_true, List.length_cons, List.length_nil, List.take_succ_cons, List.take_zero, List.drop_succ_cons, List.drop_zero, List.cons_append, List.nil_append, Nat.zero_add, Nat.add_zero, Nat.reduceMul, aFill, evParts, rep, List.replicate_succ, List.replicate_zero, List.flatten_cons, List.flatten_nil, List.append_nil, newSl, newVar, t2, t7, t12, t13, c1, hm, hix, hx, hz, e9, m12, m18, c3, c4, hap, w2]
        refine ⟨n - 1, ⟨?_, ?_, ?_, ?_, ex, i + 1, q', 2, _, ?_, ?_, by rw [e1]; exact hv2, hq, by rw [e1]; exact hs, by omega, by omega, by omega⟩, by simp only [id]; omega⟩ <;>
          simp only [Tr.get_set, Nat.reduceEqDiff, if_false, if_true, t0, t1, t2, t12, e1]
      · obtain ⟨q', S2, hap, hv2, ex, hq, hs⟩ := step (z % 262144) (by omega) (by omega)
        simp -implicitDefEqProofs -dsimp (maxSteps := 10000000) only [af6_l0, ↓goes_loop, ↓goes_seq, ↓goes_reg, ↓goes_dreg, ↓goes_cond, ↓goes_block, ↓goes_skip, ↓goes_exit, ↓goes_ret, after_some, br_true, br_false, ↓then_normal, ↓then_exit, ↓then_ret, ↓blk_normal, ↓blk_exit, ↓blk_ret, ↓blk_other, ops_nil, ops_some, ops_none, oper_none, oper_some, gd_tt, gd_ff, gd_tf, gd_ft, ↓any_op, ↓any_call, ↓any_callV, ↓any_invoke, xo_t, xo_c, args_nil, args_cons, bin_add, bin_sub, bin_mul, bin_quo, bin_rem, bin_and, bin_or, bin_xor, bin_andNot, bin_eql, bin_neq, bin_lss, bin_leq, bin_gtr, bin_geq, bin_shl, bin_shr, bin_bools, bin_strs, bin_ptrs, bin_slices, bin_aggs, ↓Option.bind_some, ↓Option.map_some, ↓cond_true, ↓cond_false, evC, evOp, XO.lit, setArgs, Tr.get_set, Option.bind_some, Option.map_some, cond_true, cond_false, maxI, maxFrom, minI, minFrom, aConv, aBinE, aEq, eqScal, aUn, evRes, fin, oneOf, if_true, if_false, callee, reduceCtorEq, Nat.reduceEqDiff, and_self, decide_true, decide_false, beq_true, beq_false, Bool.not_true, Bool.not_false, List.getElem?_cons_zero, List.getElem?_cons_succ, beq_self_eq_true, gt_iff_lt, ble_dec, beq_dec, List.head?_cons, AV.undef, eq_self, ne_eq, not_true_eq_false, not_false_eq_true, Int.reduceLT, Int.reduceLE, Int.reduceToNat, Int.reduceEq, Int.reduceNeg, Nat.reduceAdd, Nat.reduceLT, Nat.reduceLeDiff, Nat.reduceMul, Nat.reduceSub, AV.cells, AV.tup, Bool.true_and, true_and, and_true, List.drop_nil, List.append_nil, rd_put, rd_alloc, rdO, St.get_put, St.get_alloc, St.next_put, St.next_alloc, St.wr, Bool.and_self, Bool.and_true, List.length_cons, List.length_nil, List.take_succ_cons, List.take_zero, List.drop_succ_cons, List.drop_zero, List.cons_append, List.nil_append, Nat.zero_add, Nat.add_zero, Nat.reduceMul, aFill, evParts, rep, List.replicate_succ, List.replicate_zero, List.flatten_cons, List.flatten_nil, List.append_nil, newSl, newVar, t2, t7, t12, t13, c1, hm, hix, hx, hz, e9, m12, m18, c3, c4, hap, w2]
        refine ⟨n - 1, ⟨?_, ?_, ?_, ?_, ex, i + 1, q', 2, _, ?_, ?_, by rw [e1]; exact hv2, hq, by rw [e1]; exact hs, by omega, by omega, by omega⟩, by simp only [id]; omega⟩ <;>
          simp only [Tr.get_set, Nat.reduceEqDiff, if_false, if_true, t0, t1, t2, t12, e1]
    · obtain ⟨q', S2, hap, hv2, ex, hq, hs⟩ := step (z % 262144) (by omega) (by omega)
      simp -implicitDefEqProofs -dsimp (maxSteps := 10000000) only [af6_l0, ↓goes_loop, ↓goes_seq, ↓goes_reg, ↓goes_dreg, ↓goes_cond, ↓goes_block, ↓goes_skip, ↓goes_exit, ↓goes_ret, after_some, br_true, br_false, ↓then_normal, ↓then_exit, ↓then_ret, ↓blk_normal, ↓blk_exit, ↓blk_ret, ↓blk_other, ops_nil, ops_some, ops_none, oper_none, oper_some, gd_tt, gd_ff, gd_tf, gd_ft, ↓any_op, ↓any_call, ↓any_callV, ↓any_invoke, xo_t, xo_c, args_nil, args_cons, bin_add, bin_sub, bin_mul, bin_quo, bin_rem, bin_and, bin_or, bin_xor, bin_andNot, bin_eql, bin_neq, bin_lss, bin_leq, bin_gtr, bin_geq, bin_shl, bin_shr, bin_bools, bin_strs, bin_ptrs, bin_slices, bin_aggs, ↓Option.bind_some, ↓Option.map_some, ↓cond_true, ↓cond_false, evC, evOp, XO.lit, setArgs, Tr.get_set, Option.bind_some, Option.map_some, cond_true, cond_false, maxI, maxFrom, minI, minFrom, aConv, aBinE, aEq, eqScal, aUn, evRes, fin, oneOf, if_true, if_false, callee, reduceCtorEq, Nat.reduceEqDiff, and_self, decide_true, decide_false, beq_true, beq_false, Bool.not_true, Bool.not_false, List.getElem?_cons_zero, List.getElem?_cons_succ, beq_self_eq_true, gt_iff_lt, ble_dec, beq_dec, List.head?_cons, AV.undef, eq_self, ne_eq, not_true_eq_false, not_false_eq_true, Int.reduceLT, Int.reduceLE, Int.reduceToNat, Int.reduceEq, Int.reduceNeg, Nat.reduceAdd, Nat.reduceLT, Nat.reduceLeDiff, Nat.reduceMul, Nat.reduceSub, AV.cells, AV.tup, Bool.true_and, true_and, and_true, List.drop_nil, List.append_nil, rd_put, rd_alloc, rdO, St.get_put, St.get_alloc, St.next_put, St.next_alloc, St.wr, Bool.and_self, Bool.and_true, List.length_cons, List.length_nil, List.take_succ_cons, List.take_zero, List.drop_succ_cons, List.drop_zero, List.cons_append, List.nil_append, Nat.zero_add, Nat.add_zero, Nat.reduceMul, aFill, evParts, rep, List.replicate_succ, List.replicate_zero, List.flatten_cons, List.flatten_nil, List.append_nil, newSl, newVar, t2, t7, t12, t13, c1, hm, hix, hx, hz, e9, m12, m18, c3, hap, w2]
      refine ⟨n - 1, ⟨?_, ?_, ?_, ?_, ex, i + 1, q', 2, _, ?_, ?_, by rw [e1]; exact hv2, hq, by rw [e1]; exact hs, by omega, by omega, by omega⟩, by simp only [id]; omega⟩ <;>
        simp only [Tr.get_set, Nat.reduceEqDiff, if_false, if_true, t0, t1, t2, t12, e1]
  · simp -implicitDefEqProofs -dsimp (maxSteps := 10000000) only [af6_l0, ↓goes_loop, ↓goes_seq, ↓goes_reg, ↓goes_dreg, ↓goes_cond, ↓goes_block, ↓goes_skip, ↓goes_exit, ↓goes_ret, after_some, br_true, br_false, ↓then_normal, ↓then_exit, ↓then_ret, ↓blk_normal, ↓blk_exit, ↓blk_ret, ↓blk_other, ops_nil, ops_some, ops_none, oper_none, oper_some, gd_tt, gd_ff, gd_tf, gd_ft, ↓any_op, ↓any_call, ↓any_callV, ↓any_invoke, xo_t, xo_c, args_nil, args_cons, bin_add, bin_sub, bin_mul, bin_quo, bin_rem, bin_and, bin_or, bin_xor, bin_andNot, bin_eql, bin_neq, bin_lss, bin_leq, bin_gtr, bin_geq, bin_shl, bin_shr, bin_bools, bin_strs, bin_ptrs, bin_slices, bin_aggs, ↓Option.bind_some, ↓Option.map_some, ↓cond_true, ↓cond_false, evC, evOp, XO.lit, setArgs, Tr.get_set, Option.bind_some, Option.map_some, cond_true, cond_false, maxI, maxFrom, minI, minFrom, aConv, aBinE, aEq, eqScal, aUn, evRes, fin, oneOf, if_true, if_false, callee, reduceCtorEq, Nat.reduceEqDiff, and_self, decide_true, decide_false, beq_true, beq_false, Bool.not_true, Bool.not_false, List.getElem?_cons_zero, List.getElem?_cons_succ, beq_self_eq_true, gt_iff_lt, ble_dec, beq_dec, List.head?_cons, AV.undef, eq_self, ne_eq, not_true_eq_false, not_false_eq_true, Int.reduceLT, Int.reduceLE, Int.reduceToNat, Int.reduceEq, Int.reduceNeg, Nat.reduceAdd, Nat.reduceLT, Nat.reduceLeDiff, Nat.reduceMul, Nat.reduceSub, AV.cells, AV.tup, Bool.true_and, true_and, and_true, List.drop_nil, List.append_nil, rd_put, rd_alloc, rdO, St.get_put, St.get_alloc, St.next_put, St.next_alloc, St.wr, Bool.and_self, Bool.and_true, List.length_cons, List.length_nil, List.take_succ_cons, List.take_zero, List.drop_succ_cons, List.drop_zero, List.cons_append, List.nil_append, Nat.zero_add, Nat.add_zero, Nat.reduceMul, t12, t13, c1, hm]
    refine ⟨n, ?_, ?_, ?_, ?_, he, i, q, e, c, ?_, ?_, hv, ho, hsc, i0, i1, hn⟩ <;>
      simp only [Tr.get_set, Nat.reduceEqDiff, if_false, if_true, t0, t1, t2, t12, t13, t7]
set_option maxHeartbeats 8000000 in
theorem ev6 (k : Nat) {a b : Int} (wb : I64 b) {p : Option (Nat × Nat × Nat)} {len : Nat} {S : St} (h : Sl S p len [.int .i64, .int .i64]) (hr : len * 16 ≤ 140737488351232) :
    ∃ S', evF Y AP (k + len + 300) 6 [.int .i64 a, .int .i64 b, .slice p len 2 none] S = some (.bool true, S') := by
  have hm := h.max
  suffices hs : ∃ v S', evF Y AP (k + len + 300) 6 [.int .i64 a, .int .i64 b, .slice p len 2 none] S = some (v, S') ∧ v = .bool true by
    obtain ⟨v, S', h1, rfl⟩ := hs; exact ⟨S', h1⟩
  refine evF_goes (af := af6) (k := k + len + 299) rfl rfl rfl ?_
  simp -implicitDefEqProofs -dsimp (maxSteps := 10000000) only [af6, ↓goes_loop, ↓goes_seq, ↓goes_reg, ↓goes_dreg, ↓goes_cond, ↓goes_block, ↓goes_skip, ↓goes_exit, ↓goes_ret, after_some, br_true, br_false, ↓then_normal, ↓then_exit, ↓then_ret, ↓blk_normal, ↓blk_exit, ↓blk_ret, ↓blk_other, ops_nil, ops_some, ops_none, oper_none, oper_some, gd_tt, gd_ff, gd_tf, gd_ft, ↓any_op, ↓any_call, ↓any_callV, ↓any_invoke, xo_t, xo_c, args_nil, args_cons, bin_add, bin_sub, bin_mul, bin_quo, bin_rem, bin_and, bin_or, bin_xor, bin_andNot, bin_eql, bin_neq, bin_lss, bin_leq, bin_gtr, bin_geq, bin_shl, bin_shr, bin_bools, bin_strs, bin_ptrs, bin_slices, bin_aggs, ↓Option.bind_some, ↓Option.map_some, ↓cond_true, ↓cond_false, evC, evOp, XO.lit, setArgs, Tr.tabG, Tr.tabS, Tr.tabL, Tr.get_lf, Option.bind_some, Option.map_some, cond_true, cond_false, maxI, maxFrom, minI, minFrom, aConv, aBinE, aEq, eqScal, aUn, evRes, fin, oneOf, if_true, if_false, callee, reduceCtorEq, Nat.reduceEqDiff, and_self, decide_true, decide_false, beq_true, beq_false, Bool.not_true, Bool.not_false, List.getElem?_cons_zero, List.getElem?_cons_succ, beq_self_eq_true, gt_iff_lt, ble_dec, beq_dec, List.head?_cons, AV.undef, eq_self, ne_eq, not_true_eq_false, not_false_eq_true, Int.reduceLT, Int.reduceLE, Int.reduceToNat, Int.reduceEq, Int.reduceNeg, Nat.reduceAdd, Nat.reduceLT, Nat.reduceLeDiff, Nat.reduceMul, Nat.reduceSub, AV.cells, AV.tup, Bool.true_and, true_and, and_true, List.drop_nil, List.append_nil, rd_put, rd_alloc, rdO, St.get_put, St.get_alloc, St.next_put, St.next_alloc, St.wr, Bool.and_self, Bool.and_true, List.length_cons, List.length_nil, List.take_succ_cons, List.take_zero, List.drop_succ_cons, List.drop_zero, List.cons_append, List.nil_append, Nat.zero_add, Nat.add_zero, Nat.reduceMul, hm]
  refine .while (I6 a b p len S) id len ?_ (by show len < k + len + 299; omega) fun n2 T2 S2 h2 => ?_
  · refine ⟨rfl, rfl, rfl, rfl, .refl _, 0, none, 0, [], rfl, rfl, .nil _ _ _, ?_, ?_, by omega, by omega, by omega⟩
    · intro o v j e; cases e
    · intro j hj; exact absurd hj (Nat.not_lt_zero _)
  · refine (round6 (k + len) a b h hr n2 T2 S2 h2).mono ?_
    intro q T' S' hr'
    cases q with
    | normal => exact hr'
    | ret => exact absurd hr'.1 (by intro h; cases h)
    | exit id =>
      obtain ⟨hid, n', t0, t1, t2, t12, he, i, q, e, c, t13, t7, hv, ho, hsc, i0, i1, hn⟩ := hr'
      cases hid
      have hsl : Sl S' q i.toNat [.int .i64, .int .i64] := hv.sl (ks := [.int .i64, .int .i64]) (by omega) hsc
      obtain ⟨S3, e3, x3⟩ := play15 (k + len + 99) (a := a) wb (h.ext he) (e := 2) (.inr rfl)
      obtain ⟨S4, e4, x4⟩ := play15 (k + len + 99) (a := a % 1048576) (u := b % 16384) (wf_mk (by omega) (by omega)) (hsl.ext x3) hv.ez
      obtain ⟨S5, e5, x5⟩ := play15 (k + len + 99) (a := a) (u := b % 65536) (wf_mk (by omega) (by omega)) (hsl.ext (x3.trans x4)) hv.ez
      simp -implicitDefEqProofs -dsimp (maxSteps := 10000000) only [↓goes_loop, ↓goes_seq, ↓goes_reg, ↓goes_dreg, ↓goes_cond, ↓goes_block, ↓goes_skip, ↓goes_exit, ↓goes_ret, after_some, br_true, br_false, ↓then_normal, ↓then_exit, ↓then_ret, ↓blk_normal, ↓blk_exit, ↓blk_ret, ↓blk_other, ops_nil, ops_some, ops_none, oper_none, oper_some, gd_tt, gd_ff, gd_tf, gd_ft, ↓any_op, ↓any_call, ↓any_callV, ↓any_invoke, xo_t, xo_c, args_nil, args_cons, bin_add, bin_sub, bin_mul, bin_quo, bin_rem, bin_and, bin_or, bin_xor, bin_andNot, bin_eql, bin_neq, bin_lss, bin_leq, bin_gtr, bin_geq, bin_shl, bin_shr, bin_bools, bin_strs, bin_ptrs, bin_slices, bin_aggs, ↓Option.bind_some, ↓Option.map_some, ↓cond_true, ↓cond_false, evC, evOp, XO.lit, setArgs, Tr.get_set, Option.bind_some, Option.map_some, cond_true, cond_false, maxI, maxFrom, minI, minFrom, aConv, aBinE, aEq, eqScal, aUn, evRes, fin, oneOf, if_true, if_false, callee, reduceCtorEq, Nat.reduceEqDiff, and_self, decide_true, decide_false, beq_true, beq_false, Bool.not_true, Bool.not_false, List.getElem?_cons_zero, List.getElem?_cons_succ, beq_self_eq_true, gt_iff_lt, ble_dec, beq_dec, List.head?_cons, AV.undef, eq_self, ne_eq, not_true_eq_false, not_false_eq_true, Int.reduceLT, Int.reduceLE, Int.reduceToNat, Int.reduceEq, Int.reduceNeg, Nat.reduceAdd, Nat.reduceLT, Nat.reduceLeDiff, Nat.reduceMul, Nat.reduceSub, AV.cells, AV.tup, Bool.true_and, true_and, and_true, List.drop_nil, List.append_nil, rd_put, rd_alloc, rdO, St.get_put, St.get_alloc, St.next_put, St.next_alloc, St.wr, Bool.and_self, Bool.and_true, List.length_cons, List.length_nil, List.take_succ_cons, List.take_zero, List.drop_succ_cons, List.drop_zero, List.cons_append, List.nil_append, Nat.zero_add, Nat.add_zero, Nat.reduceMul, t0, t1, t2, t7, m20, m14, m16, e3, e4, e5, y14]
      exact ⟨_, _, rfl, rfl⟩
theorem law6 {a b : Int} (_ : (Lit.int .i64 a).wf = true) (wb : (Lit.int .i64 b).wf = true) {p : Option (Nat × Nat × Nat)} {len : Nat} {xs : List AV} (h : Arg p 0 len [.int .i64, .int .i64] xs) (hr : len * 16 ≤ 140737488351232) :
    ∃ S', evF Y AP (0 + len + 300) 6 [.int .i64 a, .int .i64 b, .slice p len 2 none] (S0.alloc (.cells xs 0 0 false)) = some (.bool true, S') :=
  ev6 0 (wf_i64 wb) (.of_arg h rfl (by show 0 < 1; decide)) hr
end Go.Proofs.YteeijgjibdhkeaaA
