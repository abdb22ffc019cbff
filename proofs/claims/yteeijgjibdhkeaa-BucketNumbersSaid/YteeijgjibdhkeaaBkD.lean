/- Chapter 10: time in parts; no more is taken than the burst and the rate times the time. -/
import Derived.Test.YteeijgjibdhkeaaBkC
set_option linter.unusedVariables false
set_option linter.unusedSimpArgs false
set_option maxRecDepth 10000
namespace Go.Proofs.YteeijgjibdhkeaaA
open Go.RowKit
attribute [local congr] bind_congr1 map_congr1 cond_congr1 withX_congr after_congr br_congr gd_congr

def within (n lo hi : Int) : Int := if lo ≤ n ∧ n ≤ hi then n else lo + n % (hi - lo + 1)
theorem within_bd (n : Int) {lo hi : Int} (h : lo ≤ hi) : lo ≤ within n lo hi ∧ within n lo hi ≤ hi := by
  unfold within
  have h0 := Int.emod_nonneg n (show hi - lo + 1 ≠ 0 by omega)
  have h1 := Int.emod_lt_of_pos n (show 0 < hi - lo + 1 by omega)
  split <;> omega
theorem tmod_up (n m : Int) (hm : 0 < m) : (if Int.tmod n m < 0 then Int.tmod n m + m else Int.tmod n m) = n % m := by
  rw [Int.tmod_eq_emod]
  have h0 := Int.emod_nonneg n (show m ≠ 0 by omega)
  have h1 := Int.emod_lt_of_pos n hm
  split
  · rw [if_neg (by omega)]; omega
  · have hn : ((m.natAbs : Nat) : Int) = m := Int.natAbs_of_nonneg (by omega)
    by_cases hz : n % m = 0
    · rename_i hc
      exact absurd (Or.inr (Int.dvd_of_emod_eq_zero hz)) hc
    · rw [if_pos (by omega)]; omega
theorem T9 (k : Nat) (S : St) {n lo hi : Int} (h : lo ≤ hi) (h0 : -1000 ≤ lo) (h1 : hi ≤ 1000) : evF Y AP (k + 4) 9 [.int .i64 n, .int .i64 lo, .int .i64 hi] S = some (.int .i64 (within n lo hi), S) := by
  rw [evF_body (af := af9) rfl rfl rfl]
  have w1 : IntKind.i64.wrap (hi - lo) = hi - lo := w64_id (by omega) (by omega)
  have w2 : IntKind.i64.wrap (hi - lo + 1) = hi - lo + 1 := w64_id (by omega) (by omega)
  have hne : ¬ hi - lo + 1 = 0 := by omega
  have hu := tmod_up n (hi - lo + 1) (by omega)
  have h2 := Int.emod_nonneg n (show hi - lo + 1 ≠ 0 by omega)
  have h3 := Int.emod_lt_of_pos n (show 0 < hi - lo + 1 by omega)
  obtain ⟨t, ht⟩ : ∃ t, Int.tmod n (hi - lo + 1) = t := ⟨_, rfl⟩
  rw [ht] at hu
  by_cases c1 : lo ≤ n
  · by_cases c2 : n ≤ hi
    · simp -implicitDefEqProofs -dsimp (maxSteps := 10000000) only [af9, ops_nil, ops_some, ops_none, oper_none, oper_some, gd_tt, gd_ff, gd_tf, gd_ft, ↓any_op, ↓any_call, ↓any_callV, ↓any_invoke, xo_t, xo_c, args_nil, args_cons, bin_add, bin_sub, bin_mul, bin_quo, bin_rem, bin_and, bin_or, bin_xor, bin_andNot, bin_eql, bin_neq, bin_lss, bin_leq, bin_gtr, bin_geq, bin_shl, bin_shr, bin_bools, bin_strs, bin_ptrs, bin_slices, bin_aggs, ↓Option.bind_some, ↓Option.map_some, ↓cond_true, ↓cond_false, evC, evOp, XO.lit, setArgs, Tr.tabG, Tr.tabS, Tr.tabL, Tr.get_lf, Option.bind_some, Option.map_some, cond_true, cond_false, maxI, maxFrom, minI, minFrom, aConv, aBinE, aEq, eqScal, aUn, evRes, fin, oneOf, if_true, if_false, callee, reduceCtorEq, Nat.reduceEqDiff, and_self, decide_true, decide_false, beq_true, beq_false, Bool.not_true, Bool.not_false, List.getElem?_cons_zero, List.getElem?_cons_succ, beq_self_eq_true, gt_iff_lt, ble_dec, beq_dec, List.head?_cons, AV.undef, eq_self, ne_eq, not_true_eq_false, not_false_eq_true, Int.reduceLT, Int.reduceLE, Int.reduceToNat, Int.reduceEq, Int.reduceNeg, Nat.reduceAdd, Nat.reduceLT, Nat.reduceLeDiff, Nat.reduceMul, Nat.reduceSub, AV.cells, AV.tup, Bool.true_and, true_and, and_true, List.drop_nil, List.append_nil, rd_put, rd_alloc, rdO, St.get_put, St.get_alloc, St.next_put, St.next_alloc, St.wr, Bool.and_self, Bool.and_true, List.length_cons, List.length_nil, List.take_succ_cons, List.take_zero, List.drop_succ_cons, List.drop_zero, List.cons_append, List.nil_append, Nat.zero_add, Nat.add_zero, Nat.reduceMul, c1, c2]
      simp only [within, c1, c2, and_self, if_true]
    · by_cases c3 : t < 0
      · rw [if_pos c3] at hu
        have w3 : IntKind.i64.wrap (t + hi) = t + hi := w64_id (by omega) (by omega)
        have w4 : IntKind.i64.wrap (t + hi - lo) = t + hi - lo := w64_id (by omega) (by omega)
        have w5 : IntKind.i64.wrap (t + hi - lo + 1) = t + hi - lo + 1 := w64_id (by omega) (by omega)
        have w6 : IntKind.i64.wrap (lo + (t + hi - lo + 1)) = lo + (t + hi - lo + 1) := w64_id (by omega) (by omega)
        simp -implicitDefEqProofs -dsimp (maxSteps := 10000000) only [af9, ops_nil, ops_some, ops_none, oper_none, oper_some, gd_tt, gd_ff, gd_tf, gd_ft, ↓any_op, ↓any_call, ↓any_callV, ↓any_invoke, xo_t, xo_c, args_nil, args_cons, bin_add, bin_sub, bin_mul, bin_quo, bin_rem, bin_and, bin_or, bin_xor, bin_andNot, bin_eql, bin_neq, bin_lss, bin_leq, bin_gtr, bin_geq, bin_shl, bin_shr, bin_bools, bin_strs, bin_ptrs, bin_slices, bin_aggs, ↓Option.bind_some, ↓Option.map_some, ↓cond_true, ↓cond_false, evC, evOp, XO.lit, setArgs, Tr.tabG, Tr.tabS, Tr.tabL, Tr.get_lf, Option.bind_some, Option.map_some, cond_true, cond_false, maxI, maxFrom, minI, minFrom, aConv, aBinE, aEq, eqScal, aUn, evRes, fin, oneOf, if_true, if_false, callee, reduceCtorEq, Nat.reduceEqDiff, and_self, decide_true, decide_false, beq_true, beq_false, Bool.not_true, Bool.not_false, List.getElem?_cons_zero, List.getElem?_cons_succ, beq_self_eq_true, gt_iff_lt, ble_dec, beq_dec, List.head?_cons, AV.undef, eq_self, ne_eq, not_true_eq_false, not_false_eq_true, Int.reduceLT, Int.reduceLE, Int.reduceToNat, Int.reduceEq, Int.reduceNeg, Nat.reduceAdd, Nat.reduceLT, Nat.reduceLeDiff, Nat.reduceMul, Nat.reduceSub, AV.cells, AV.tup, Bool.true_and, true_and, and_true, List.drop_nil, List.append_nil, rd_put, rd_alloc, rdO, St.get_put, St.get_alloc, St.next_put, St.next_alloc, St.wr, Bool.and_self, Bool.and_true, List.length_cons, List.length_nil, List.take_succ_cons, List.take_zero, List.drop_succ_cons, List.drop_zero, List.cons_append, List.nil_append, Nat.zero_add, Nat.add_zero, Nat.reduceMul, c1, c2, c3, ht, w1, w2, w3, w4, w5, w6, hne]
        simp only [within, c2, and_false, if_false]
        congr 3; omega
      · rw [if_neg c3] at hu
        have w6 : IntKind.i64.wrap (lo + t) = lo + t := w64_id (by omega) (by omega)
        simp -implicitDefEqProofs -dsimp (maxSteps := 10000000) only [af9, ops_nil, ops_some, ops_none, oper_none, oper_some, gd_tt, gd_ff, gd_tf, gd_ft, ↓any_op, ↓any_call, ↓any_callV, ↓any_invoke, xo_t, xo_c, args_nil, args_cons, bin_add, bin_sub, bin_mul, bin_quo, bin_rem, bin_and, bin_or, bin_xor, bin_andNot, bin_eql, bin_neq, bin_lss, bin_leq, bin_gtr, bin_geq, bin_shl, bin_shr, bin_bools, bin_strs, bin_ptrs, bin_slices, bin_aggs, ↓Option.bind_some, ↓Option.map_some, ↓cond_true, ↓cond_false, evC, evOp, XO.lit, setArgs, Tr.tabG, Tr.tabS, Tr.tabL, Tr.get_lf, Option.bind_some, Option.map_some, cond_true, cond_false, maxI, maxFrom, minI, minFrom, aConv, aBinE, aEq, eqScal, aUn, evRes, fin, oneOf, if_true, if_false, callee, reduceCtorEq, Nat.reduceEqDiff, and_self, decide_true, decide_false, beq_true, beq_false, Bool.not_true, Bool.not_false, List.getElem?_cons_zero, List.getElem?_cons_succ, beq_self_eq_true, gt_iff_lt, ble_dec, beq_dec, List.head?_cons, AV.undef, eq_self, ne_eq, not_true_eq_false, not_false_eq_true, Int.reduceLT, Int.reduceLE, Int.reduceToNat, Int.reduceEq, Int.reduceNeg, Nat.reduceAdd, Nat.reduceLT, Nat.reduceLeDiff, Nat.reduceMul, Nat.reduceSub, AV.cells, AV.tup, Bool.true_and, true_and, and_true, List.drop_nil, List.append_nil, rd_put, rd_alloc, rdO, St.get_put, St.get_alloc, St.next_put, St.next_alloc, St.wr, Bool.and_self, Bool.and_true, List.length_cons, List.length_nil, List.take_succ_cons, List.take_zero, List.drop_succ_cons, List.drop_zero, List.cons_append, List.nil_append, Nat.zero_add, Nat.add_zero, Nat.reduceMul, c1, c2, c3, ht, w1, w2, w6, hne]
        simp only [within, c2, and_false, if_false, hu]
  · by_cases c3 : t < 0
    · rw [if_pos c3] at hu
      have w3 : IntKind.i64.wrap (t + hi) = t + hi := w64_id (by omega) (by omega)
      have w4 : IntKind.i64.wrap (t + hi - lo) = t + hi - lo := w64_id (by omega) (by omega)
      have w5 : IntKind.i64.wrap (t + hi - lo + 1) = t + hi - lo + 1 := w64_id (by omega) (by omega)
      have w6 : IntKind.i64.wrap (lo + (t + hi - lo + 1)) = lo + (t + hi - lo + 1) := w64_id (by omega) (by omega)
      simp -implicitDefEqProofs -dsimp (maxSteps := 10000000) only [af9, ops_nil, ops_some, ops_none, oper_none, oper_some, gd_tt, gd_ff, gd_tf, gd_ft, ↓any_op, ↓any_call, ↓any_callV, ↓any_invoke, xo_t, xo_c, args_nil, args_cons, bin_add, bin_sub, bin_mul, bin_quo, bin_rem, bin_and, bin_or, bin_xor, bin_andNot, bin_eql, bin_neq, bin_lss, bin_leq, bin_gtr, bin_geq, bin_shl, bin_shr, bin_bools, bin_strs, bin_ptrs, bin_slices, bin_aggs, ↓Option.bind_some, ↓Option.map_some, ↓cond_true, ↓cond_false, evC, evOp, XO.lit, setArgs, Tr.tabG, Tr.tabS, Tr.tabL, Tr.get_lf, Option.bind_some, Option.map_some, cond_true, cond_false, maxI, maxFrom, minI, minFrom, aConv, aBinE, aEq, eqScal, aUn, evRes, fin, oneOf, if_true, if_false, callee, reduceCtorEq, Nat.reduceEqDiff, and_self, decide_true, decide_false, beq_true, beq_false, Bool.not_true, Bool.not_false, List.getElem?_cons_zero, List.getElem?_cons_succ, beq_self_eq_true, gt_iff_lt, ble_dec, beq_dec, List.head?_cons, AV.undef, eq_self, ne_eq, not_true_eq_false, not_false_eq_true, Int.reduceLT, Int.reduceLE, Int.reduceToNat, Int.reduceEq, Int.reduceNeg, Nat.reduceAdd, Nat.reduceLT, Nat.reduceLeDiff, Nat.reduceMul, Nat.reduceSub, AV.cells, AV.tup, Bool.true_and, true_and, and_true, List.drop_nil, List.append_nil, rd_put, rd_alloc, rdO, St.get_put, St.get_alloc, St.next_put, St.next_alloc, St.wr, Bool.and_self, Bool.and_true, List.length_cons, List.length_nil, List.take_succ_cons, List.take_zero, List.drop_succ_cons, List.drop_zero, List.cons_append, List.nil_append, Nat.zero_add, Nat.add_zero, Nat.reduceMul, c1, c3, ht, w1, w2, w3, w4, w5, w6, hne]
      simp only [within, c1, false_and, if_false]
      congr 3; omega
    · rw [if_neg c3] at hu
      have w6 : IntKind.i64.wrap (lo + t) = lo + t := w64_id (by omega) (by omega)
      simp -implicitDefEqProofs -dsimp (maxSteps := 10000000) only [af9, ops_nil, ops_some, ops_none, oper_none, oper_some, gd_tt, gd_ff, gd_tf, gd_ft, ↓any_op, ↓any_call, ↓any_callV, ↓any_invoke, xo_t, xo_c, args_nil, args_cons, bin_add, bin_sub, bin_mul, bin_quo, bin_rem, bin_and, bin_or, bin_xor, bin_andNot, bin_eql, bin_neq, bin_lss, bin_leq, bin_gtr, bin_geq, bin_shl, bin_shr, bin_bools, bin_strs, bin_ptrs, bin_slices, bin_aggs, ↓Option.bind_some, ↓Option.map_some, ↓cond_true, ↓cond_false, evC, evOp, XO.lit, setArgs, Tr.tabG, Tr.tabS, Tr.tabL, Tr.get_lf, Option.bind_some, Option.map_some, cond_true, cond_false, maxI, maxFrom, minI, minFrom, aConv, aBinE, aEq, eqScal, aUn, evRes, fin, oneOf, if_true, if_false, callee, reduceCtorEq, Nat.reduceEqDiff, and_self, decide_true, decide_false, beq_true, beq_false, Bool.not_true, Bool.not_false, List.getElem?_cons_zero, List.getElem?_cons_succ, beq_self_eq_true, gt_iff_lt, ble_dec, beq_dec, List.head?_cons, AV.undef, eq_self, ne_eq, not_true_eq_false, not_false_eq_true, Int.reduceLT, Int.reduceLE, Int.reduceToNat, Int.reduceEq, Int.reduceNeg, Nat.reduceAdd, Nat.reduceLT, Nat.reduceLeDiff, Nat.reduceMul, Nat.reduceSub, AV.cells, AV.tup, Bool.true_and, true_and, and_true, List.drop_nil, List.append_nil, rd_put, rd_alloc, rdO, St.get_put, St.get_alloc, St.next_put, St.next_alloc, St.wr, Bool.and_self, Bool.and_true, List.length_cons, List.length_nil, List.take_succ_cons, List.take_zero, List.drop_succ_cons, List.drop_zero, List.cons_append, List.nil_append, Nat.zero_add, Nat.add_zero, Nat.reduceMul, c1, c3, ht, w1, w2, w6, hne]
      simp only [within, c1, false_and, if_false, hu]
theorem m16 (x : Int) : Go.bits .and .i64 x 65535 = x % 65536 := and_i64 16 (by decide) x
/-! ### Time in parts -/
structure I7 (r u : Int) (p : Option (Nat × Nat × Nat)) (len : Nat) (Sb : St) (n : Nat) (T : Tm) (S : St) : Prop where
  t2 : T.get 2 = some (.slice p len 1 none)
  t7 : T.get 7 = some (.int .i64 r)
  t8 : T.get 8 = some (.int .i64 u)
  t9 : T.get 9 = some (pt Sb.next)
  t10 : T.get 10 = some (pt (Sb.next + 1))
  ext : Ext Sb S
  gb : S.get (Sb.next + 1) = some (bk ⟨r, u, 0⟩)
  more : ∃ i s : Int, T.get 12 = some (.int .i64 i) ∧ T.get 11 = some (.int .i64 s) ∧ S.get Sb.next = some (bk ⟨r, u, mn (r * s) (u * 1000000)⟩) ∧ 0 ≤ i ∧ i ≤ 30 ∧ (n : Int) = 30 - i ∧ 0 ≤ s ∧ s ≤ 65535 * i
theorem mn_step {r s d U : Int} (hr : 0 ≤ r) (hd : 0 ≤ d) : mn (mn (r * s) U + r * d) U = mn (r * (s + d)) U := by
  have : 0 ≤ r * d := Int.mul_nonneg hr hd
  rw [Int.mul_add]
  unfold mn
  (repeat' split) <;> omega
set_option maxHeartbeats 4000000 in
theorem round7 (k : Nat) (r u : Int) (r0 : 0 ≤ r) (r1 : r ≤ 1048575) (u0 : 0 ≤ u) (u1 : u ≤ 16383) {p : Option (Nat × Nat × Nat)} {len : Nat} {Sb : St} (h : Sl Sb p len [.int .i64]) (n : Nat) (T : Tm) (S : St) (hI : I7 r u p len Sb n T S) :
    Goes (evF Y AP (k + 99)) (k + 99) af7_l0 T S (Then (fun T' S' => ∃ n', I7 r u p len Sb n' T' S' ∧ id n' < id n) fun q T' S' => q = .exit 0 ∧ ∃ n', I7 r u p len Sb n' T' S') := by
  have hm := h.max
  obtain ⟨t2, t7, t8, t9, t10, he, gb, i, s, t12, t11, ga, i0, i1, hn, s0, s1⟩ := hI
  by_cases c1 : i < len
  · by_cases c2 : i < 30
    · obtain ⟨o, v, j, rfl, ho⟩ := h.at_ (by omega)
      obtain ⟨z, hz0, wz⟩ := h.int i0 c1
      have hz : S.rd o v (j + i.toNat * 1) 1 = some [.int .i64 z] := by rw [he.rd ho]; exact hz0
      have hix : ixOf (.int .i64 i) len = some i.toNat := ix_ok i0 c1
      obtain ⟨d, hd⟩ : ∃ d, z % 65536 = d := ⟨_, rfl⟩
      have d0 : 0 ≤ d := by omega
      have d1 : d ≤ 65535 := by omega
      have hp : 0 ≤ r * s := Int.mul_nonneg r0 s0
      have ok : OkB ⟨r, u, mn (r * s) (u * 1000000)⟩ := by
        refine ⟨?_, ?_, ?_, ?_, ?_, ?_⟩ <;> simp only [mn] <;> (try split) <;> omega
      obtain ⟨S2, e10, b2⟩ := T10 (k + 95) ok ga d
      have hg2 : tickB ⟨r, u, mn (r * s) (u * 1000000)⟩ d = ⟨r, u, mn (r * (s + d)) (u * 1000000)⟩ := by
        simp only [tickB, up_pos d0, mn_step r0 d0]
      rw [hg2] at b2
      obtain ⟨S3, e16, b3⟩ := T16 (k + 95) b2.same r
      have hg3 : rateB ⟨r, u, mn (r * (s + d)) (u * 1000000)⟩ r = ⟨r, u, mn (r * (s + d)) (u * 1000000)⟩ := by
        simp only [rateB, held_id r0 (show r ≤ 1099511627776 by omega)]
      rw [hg3] at b3
      have e3 : Ext Sb S3 := b3.ext (b2.ext he (Nat.le_refl _)) (Nat.le_refl _)
      have hz3 : S3.rd o v (j + i.toNat * 1) 1 = some [.int .i64 z] := by rw [e3.rd ho]; exact hz0
      have w1 : IntKind.i64.wrap (s + d) = s + d := w64_id (by omega) (by omega)
      have w2 : IntKind.i64.wrap (i + 1) = i + 1 := w64_id (by omega) (by omega)
      simp -implicitDefEqProofs -dsimp (maxSteps := 10000000) only [af7_l0, ↓goes_loop, ↓goes_seq, ↓goes_reg, ↓goes_dreg, ↓goes_cond, ↓goes_block, ↓goes_skip, ↓goes_exit, ↓goes_ret, after_some, br_true, br_false, ↓then_normal, ↓then_exit, ↓then_ret, ↓blk_normal, ↓blk_exit, ↓blk_ret, ↓blk_other, ops_nil, ops_some, ops_none, oper_none, oper_some, gd_tt, gd_ff, gd_tf, gd_ft, ↓any_op, ↓any_call, ↓any_callV, ↓any_invoke, xo_t, xo_c, args_nil, args_cons, bin_add, bin_sub, bin_mul, bin_quo, bin_rem, bin_and, bin_or, bin_xor, bin_andNot, bin_eql, bin_neq, bin_lss, bin_leq, bin_gtr, bin_geq, bin_shl, bin_shr, bin_bools, bin_strs, bin_ptrs, bin_slices, bin_aggs, ↓Option.bind_some, ↓Option.map_some, ↓cond_true, ↓cond_false, evC, evOp, XO.lit, setArgs, Tr.get_set, Option.bind_some, Option.map_some, cond_true, cond_false, maxI, maxFrom, minI, minFrom, aConv, aBinE, aEq, eqScal, aUn, evRes, fin, oneOf, if_true, if_false, callee, reduceCtorEq, Nat.reduceEqDiff, and_self, decide_true, decide_false, beq_true, beq_false, Bool.not_true, Bool.not_false, List.getElem?_cons_zero, List.getElem?_cons_succ, beq_self_eq_true, gt_iff_lt, ble_dec, beq_dec, List.head?_cons, AV.undef, eq_self, ne_eq, not_true_eq_false, not_false_eq_true, Int.reduceLT, Int.reduceLE, Int.reduceToNat, Int.reduceEq, Int.reduceNeg, Nat.reduceAdd, Nat.reduceLT, Nat.reduceLeDiff, Nat.reduceMul, Nat.reduceSub, AV.cells, AV.tup, Bool.true_and, true_and, and_true, List.drop_nil, List.append_nil, rd_put, rd_alloc, rdO, St.get_put, St.get_alloc, St.next_put, St.next_alloc, St.wr, Bool.and_self, Bool.and_true, List.length_cons, List.length_nil, List.take_succ_cons, List.take_zero, List.drop_succ_cons, List.drop_zero, List.cons_append, List.nil_append, Nat.zero_add, Nat.add_zero, Nat.reduceMul, t2, t7, t9, t11, t12, c1, c2, hm, hix, hz, hz3, m16, hd, e10, e16, w1, w2]
      refine ⟨n - 1, ⟨?_, ?_, ?_, ?_, ?_, e3, ?_, i + 1, s + d, ?_, ?_, b3.same, by omega, by omega, by omega, by omega, by omega⟩, by simp only [id]; omega⟩
      rotate_left 5
      · rw [b3.else (by omega), b2.else (by omega)]; exact gb
      all_goals simp only [Tr.get_set, Nat.reduceEqDiff, if_false, if_true, t2, t7, t8, t9, t10]
    · simp -implicitDefEqProofs -dsimp (maxSteps := 10000000) only [af7_l0, ↓goes_loop, ↓goes_seq, ↓goes_reg, ↓goes_dreg, ↓goes_cond, ↓goes_block, ↓goes_skip, ↓goes_exit, ↓goes_ret, after_some, br_true, br_false, ↓then_normal, ↓then_exit, ↓then_ret, ↓blk_normal, ↓blk_exit, ↓blk_ret, ↓blk_other, ops_nil, ops_some, ops_none, oper_none, oper_some, gd_tt, gd_ff, gd_tf, gd_ft, ↓any_op, ↓any_call, ↓any_callV, ↓any_invoke, xo_t, xo_c, args_nil, args_cons, bin_add, bin_sub, bin_mul, bin_quo, bin_rem, bin_and, bin_or, bin_xor, bin_andNot, bin_eql, bin_neq, bin_lss, bin_leq, bin_gtr, bin_geq, bin_shl, bin_shr, bin_bools, bin_strs, bin_ptrs, bin_slices, bin_aggs, ↓Option.bind_some, ↓Option.map_some, ↓cond_true, ↓cond_false, evC, evOp, XO.lit, setArgs, Tr.get_set, Option.bind_some, Option.map_some, cond_true, cond_false, maxI, maxFrom, minI, minFrom, aConv, aBinE, aEq, eqScal, aUn, evRes, fin, oneOf, if_true, if_false, callee, reduceCtorEq, Nat.reduceEqDiff, and_self, decide_true, decide_false, beq_true, beq_false, Bool.not_true, Bool.not_false, List.getElem?_cons_zero, List.getElem?_cons_succ, beq_self_eq_true, gt_iff_lt, ble_dec, beq_dec, List.head?_cons, AV.undef, eq_self, ne_eq, not_true_eq_false, not_false_eq_true, Int.reduceLT, Int.reduceLE, Int.reduceToNat, Int.reduceEq, Int.reduceNeg, Nat.reduceAdd, Nat.reduceLT, Nat.reduceLeDiff, Nat.reduceMul, Nat.reduceSub, AV.cells, AV.tup, Bool.true_and, true_and, and_true, List.drop_nil, List.append_nil, rd_put, rd_alloc, rdO, St.get_put, St.get_alloc, St.next_put, St.next_alloc, St.wr, Bool.and_self, Bool.and_true, List.length_cons, List.length_nil, List.take_succ_cons, List.take_zero, List.drop_succ_cons, List.drop_zero, List.cons_append, List.nil_append, Nat.zero_add, Nat.add_zero, Nat.reduceMul, t2, t12, c1, c2, hm]
      refine ⟨n, ?_, ?_, ?_, ?_, ?_, he, gb, i, s, ?_, ?_, ga, i0, i1, hn, s0, s1⟩ <;>
        simp only [Tr.get_set, Nat.reduceEqDiff, if_false, if_true, t2, t7, t8, t9, t10, t11, t12]
  · simp -implicitDefEqProofs -dsimp (maxSteps := 10000000) only [af7_l0, ↓goes_loop, ↓goes_seq, ↓goes_reg, ↓goes_dreg, ↓goes_cond, ↓goes_block, ↓goes_skip, ↓goes_exit, ↓goes_ret, after_some, br_true, br_false, ↓then_normal, ↓then_exit, ↓then_ret, ↓blk_normal, ↓blk_exit, ↓blk_ret, ↓blk_other, ops_nil, ops_some, ops_none, oper_none, oper_some, gd_tt, gd_ff, gd_tf, gd_ft, ↓any_op, ↓any_call, ↓any_callV, ↓any_invoke, xo_t, xo_c, args_nil, args_cons, bin_add, bin_sub, bin_mul, bin_quo, bin_rem, bin_and, bin_or, bin_xor, bin_andNot, bin_eql, bin_neq, bin_lss, bin_leq, bin_gtr, bin_geq, bin_shl, bin_shr, bin_bools, bin_strs, bin_ptrs, bin_slices, bin_aggs, ↓Option.bind_some, ↓Option.map_some, ↓cond_true, ↓cond_false, evC, evOp, XO.lit, setArgs, Tr.get_set, Option.bind_some, Option.map_some, cond_true, cond_false, maxI, maxFrom, minI, minFrom, aConv, aBinE, aEq, eqScal, aUn, evRes, fin, oneOf, if_true, if_false, callee, reduceCtorEq, Nat.reduceEqDiff, and_self, decide_true, decide_false, beq_true, beq_false, Bool.not_true, Bool.not_false, List.getElem?_cons_zero, List.getElem?_cons_succ, beq_self_eq_true, gt_iff_lt, ble_dec, beq_dec, List.head?_cons, AV.undef, eq_self, ne_eq, not_true_eq_false, not_false_eq_true, Int.reduceLT, Int.reduceLE, Int.reduceToNat, Int.reduceEq, Int.reduceNeg, Nat.reduceAdd, Nat.reduceLT, Nat.reduceLeDiff, Nat.reduceMul, Nat.reduceSub, AV.cells, AV.tup, Bool.true_and, true_and, and_true, List.drop_nil, List.append_nil, rd_put, rd_alloc, rdO, St.get_put, St.get_alloc, St.next_put, St.next_alloc, St.wr, Bool.and_self, Bool.and_true, List.length_cons, List.length_nil, List.take_succ_cons, List.take_zero, List.drop_succ_cons, List.drop_zero, List.cons_append, List.nil_append, Nat.zero_add, Nat.add_zero, Nat.reduceMul, t2, t12, c1, hm]
    refine ⟨n, ?_, ?_, ?_, ?_, ?_, he, gb, i, s, ?_, ?_, ga, i0, i1, hn, s0, s1⟩ <;>
      simp only [Tr.get_set, Nat.reduceEqDiff, if_false, if_true, t2, t7, t8, t9, t10, t11, t12]
set_option maxHeartbeats 4000000 in
theorem ev7 (k : Nat) (a b : Int) {p : Option (Nat × Nat × Nat)} {len : Nat} {S : St} (h : Sl S p len [.int .i64]) :
    ∃ S', evF Y AP (k + 100) 7 [.int .i64 a, .int .i64 b, .slice p len 1 none] S = some (.bool true, S') := by
  suffices hs : ∃ v S', evF Y AP (k + 100) 7 [.int .i64 a, .int .i64 b, .slice p len 1 none] S = some (v, S') ∧ v = .bool true by
    obtain ⟨v, S', h1, rfl⟩ := hs; exact ⟨S', h1⟩
  obtain ⟨r, hr⟩ : ∃ r, a % 1048576 = r := ⟨_, rfl⟩
  obtain ⟨u, hu⟩ : ∃ u, b % 16384 = u := ⟨_, rfl⟩
  have r0 : 0 ≤ r := by omega
  have r1 : r ≤ 1048575 := by omega
  have u0 : 0 ≤ u := by omega
  have u1 : u ≤ 16383 := by omega
  have hB : newB r u = ⟨r, u, u * 1000000⟩ := by simp only [newB, held_id r0 (show r ≤ 1099511627776 by omega), held_id u0 (show u ≤ 1099511627776 by omega)]
  obtain ⟨S1, e1, b1⟩ := T8 (S := S) (k + 95) r u
  obtain ⟨S2, e2, b2⟩ := T8 (S := S1) (k + 95) r u
  rw [hB] at b1 b2
  have ok0 : OkB ⟨r, u, u * 1000000⟩ := hB ▸ newB_ok r u
  have n1 := b1.next
  rw [n1] at e2
  have ga : S2.get S.next = some (bk ⟨r, u, u * 1000000⟩) := by rw [b2.else (by omega)]; exact b1.same
  have gb : S2.get (S.next + 1) = some (bk ⟨r, u, u * 1000000⟩) := by have := b2.same; rwa [n1] at this
  obtain ⟨S3, e3, b3⟩ := T11 (k + 95) ok0 ga (n := u) (wf_mk (by omega) (by omega))
  have hg0 : goB ⟨r, u, u * 1000000⟩ u = true := by simp only [goB, decide_eq_true_eq]; omega
  have ht0 : takeB ⟨r, u, u * 1000000⟩ u = ⟨r, u, 0⟩ := by simp only [takeB, hg0, if_true, Int.sub_self]
  rw [hg0] at e3; rw [ht0] at b3
  have gb3 : S3.get (S.next + 1) = some (bk ⟨r, u, u * 1000000⟩) := by rw [b3.else (by omega)]; exact gb
  obtain ⟨S4, e4, b4⟩ := T11 (k + 95) ok0 gb3 (n := u) (wf_mk (by omega) (by omega))
  rw [hg0] at e4; rw [ht0] at b4
  have ga4 : S4.get S.next = some (bk ⟨r, u, 0⟩) := by rw [b4.else (by omega)]; exact b3.same
  have e4x : Ext S S4 := b4.ext (b3.ext (b1.ext.trans b2.ext) (Nat.le_refl _)) (by omega)
  refine evF_goes (af := af7) (k := k + 99) rfl rfl rfl ?_
  simp -implicitDefEqProofs -dsimp (maxSteps := 10000000) only [af7, ↓goes_loop, ↓goes_seq, ↓goes_reg, ↓goes_dreg, ↓goes_cond, ↓goes_block, ↓goes_skip, ↓goes_exit, ↓goes_ret, after_some, br_true, br_false, ↓then_normal, ↓then_exit, ↓then_ret, ↓blk_normal, ↓blk_exit, ↓blk_ret, ↓blk_other, ops_nil, ops_some, ops_none, oper_none, oper_some, gd_tt, gd_ff, gd_tf, gd_ft, ↓any_op, ↓any_call, ↓any_callV, ↓any_invoke, xo_t, xo_c, args_nil, args_cons, bin_add, bin_sub, bin_mul, bin_quo, bin_rem, bin_and, bin_or, bin_xor, bin_andNot, bin_eql, bin_neq, bin_lss, bin_leq, bin_gtr, bin_geq, bin_shl, bin_shr, bin_bools, bin_strs, bin_ptrs, bin_slices, bin_aggs, ↓Option.bind_some, ↓Option.map_some, ↓cond_true, ↓cond_false, evC, evOp, XO.lit, setArgs, Tr.tabG, Tr.tabS, Tr.tabL, Tr.get_lf, Option.bind_some, Option.map_some, cond_true, cond_false, maxI, maxFrom, minI, minFrom, aConv, aBinE, aEq, eqScal, aUn, evRes, fin, oneOf, if_true, if_false, callee, reduceCtorEq, Nat.reduceEqDiff, and_self, decide_true, decide_false, beq_true, beq_false, Bool.not_true, Bool.not_false, List.getElem?_cons_zero, List.getElem?_cons_succ, beq_self_eq_true, gt_iff_lt, ble_dec, beq_dec, List.head?_cons, AV.undef, eq_self, ne_eq, not_true_eq_false, not_false_eq_true, Int.reduceLT, Int.reduceLE, Int.reduceToNat, Int.reduceEq, Int.reduceNeg, Nat.reduceAdd, Nat.reduceLT, Nat.reduceLeDiff, Nat.reduceMul, Nat.reduceSub, AV.cells, AV.tup, Bool.true_and, true_and, and_true, List.drop_nil, List.append_nil, rd_put, rd_alloc, rdO, St.get_put, St.get_alloc, St.next_put, St.next_alloc, St.wr, Bool.and_self, Bool.and_true, List.length_cons, List.length_nil, List.take_succ_cons, List.take_zero, List.drop_succ_cons, List.drop_zero, List.cons_append, List.nil_append, Nat.zero_add, Nat.add_zero, Nat.reduceMul, m20, m14, hr, hu, e1, e2, e3, e4, aBinE, aEq, Option.isNone_some]
  refine .while (I7 r u p len S) id 30 ?_ (by show 30 < k + 99; omega) fun n2 T2 S2 h2 => (round7 k r u r0 r1 u0 u1 h n2 T2 S2 h2).mono ?_
  · refine ⟨rfl, rfl, rfl, rfl, rfl, e4x, b4.same, 0, 0, rfl, rfl, ?_, by decide, by decide, rfl, by decide, by decide⟩
    rw [ga4, Int.mul_zero]
    simp only [mn, if_neg (show ¬ u * 1000000 < 0 by omega)]
  · intro q T' S' hr'
    cases q with
    | normal => exact hr'
    | ret => exact absurd hr'.1 (by intro h; cases h)
    | exit id =>
      obtain ⟨hid, n', t2, t7, t8, t9, t10, he, gb, i, s, t12, t11, ga, i0, i1, _, s0, s1⟩ := hr'
      cases hid
      have hp : 0 ≤ r * s := Int.mul_nonneg r0 s0
      have hp2 : r * s ≤ 1048575 * s := Int.mul_le_mul_of_nonneg_right r1 s0
      have ok1 : OkB ⟨r, u, 0⟩ := by refine ⟨?_, ?_, ?_, ?_, ?_, ?_⟩ <;> simp only <;> omega
      obtain ⟨S5, e10, b5⟩ := T10 (k + 95) ok1 gb s
      have hg5 : tickB ⟨r, u, 0⟩ s = ⟨r, u, mn (r * s) (u * 1000000)⟩ := by simp only [tickB, up_pos s0, Int.zero_add]
      rw [hg5] at b5
      have ok2 : OkB ⟨r, u, mn (r * s) (u * 1000000)⟩ := by
        refine ⟨?_, ?_, ?_, ?_, ?_, ?_⟩ <;> simp only [mn] <;> (try split) <;> omega
      have ga5 : S5.get S.next = some (bk ⟨r, u, mn (r * s) (u * 1000000)⟩) := by rw [b5.else (by omega)]; exact ga
      have ea := T17 (k + 95) ga5 ok2
      have eb := T17 (k + 95) b5.same ok2
      have wa := T13 (k + 95) ok2 ga5 (n := u) (wf_mk (by omega) (by omega))
      have wb := T13 (k + 95) ok2 b5.same (n := u) (wf_mk (by omega) (by omega))
      have hl : mn (r * s) (u * 1000000) / 1000000 = if r * s / 1000000 < u then r * s / 1000000 else u := by unfold mn; split <;> split <;> omega
      have hlu : mn (r * s) (u * 1000000) / 1000000 ≤ u := by rw [hl]; split <;> omega
      have w1 : IntKind.i64.wrap (r * s) = r * s := w64_id (by omega) (by omega)
      have ht : Int.tdiv (r * s) 1000000 = r * s / 1000000 := Int.tdiv_eq_ediv_of_nonneg hp
      have w2 : IntKind.i64.wrap (r * s / 1000000) = r * s / 1000000 := w64_id (by omega) (by omega)
      have hne : ¬ ((1000000 : Int) = 0) := by decide
      simp -implicitDefEqProofs -dsimp (maxSteps := 10000000) only [↓goes_loop, ↓goes_seq, ↓goes_reg, ↓goes_dreg, ↓goes_cond, ↓goes_block, ↓goes_skip, ↓goes_exit, ↓goes_ret, after_some, br_true, br_false, ↓then_normal, ↓then_exit, ↓then_ret, ↓blk_normal, ↓blk_exit, ↓blk_ret, ↓blk_other, ops_nil, ops_some, ops_none, oper_none, oper_some, gd_tt, gd_ff, gd_tf, gd_ft, ↓any_op, ↓any_call, ↓any_callV, ↓any_invoke, xo_t, xo_c, args_nil, args_cons, bin_add, bin_sub, bin_mul, bin_quo, bin_rem, bin_and, bin_or, bin_xor, bin_andNot, bin_eql, bin_neq, bin_lss, bin_leq, bin_gtr, bin_geq, bin_shl, bin_shr, bin_bools, bin_strs, bin_ptrs, bin_slices, bin_aggs, ↓Option.bind_some, ↓Option.map_some, ↓cond_true, ↓cond_false, evC, evOp, XO.lit, setArgs, Tr.get_set, Option.bind_some, Option.map_some, cond_true, cond_false, maxI, maxFrom, minI, minFrom, aConv, aBinE, aEq, eqScal, aUn, evRes, fin, oneOf, if_true, if_false, callee, reduceCtorEq, Nat.reduceEqDiff, and_self, decide_true, decide_false, beq_true, beq_false, Bool.not_true, Bool.not_false, List.getElem?_cons_zero, List.getElem?_cons_succ, beq_self_eq_true, gt_iff_lt, ble_dec, beq_dec, List.head?_cons, AV.undef, eq_self, ne_eq, not_true_eq_false, not_false_eq_true, Int.reduceLT, Int.reduceLE, Int.reduceToNat, Int.reduceEq, Int.reduceNeg, Nat.reduceAdd, Nat.reduceLT, Nat.reduceLeDiff, Nat.reduceMul, Nat.reduceSub, AV.cells, AV.tup, Bool.true_and, true_and, and_true, List.drop_nil, List.append_nil, rd_put, rd_alloc, rdO, St.get_put, St.get_alloc, St.next_put, St.next_alloc, St.wr, Bool.and_self, Bool.and_true, List.length_cons, List.length_nil, List.take_succ_cons, List.take_zero, List.drop_succ_cons, List.drop_zero, List.cons_append, List.nil_append, Nat.zero_add, Nat.add_zero, Nat.reduceMul, t7, t8, t9, t10, t11, e10, ea, eb, wa, wb, hlu, w1, w2, ht, hne, ← hl, y14]
      exact ⟨_, _, rfl, rfl⟩
theorem law7 {a b : Int} (_ : (Lit.int .i64 a).wf = true) (_ : (Lit.int .i64 b).wf = true) {p : Option (Nat × Nat × Nat)} {len : Nat} {xs : List AV} (h : Arg p 0 len [.int .i64] xs) :
    ∃ S', evF Y AP (0 + 100) 7 [.int .i64 a, .int .i64 b, .slice p len 1 none] (S0.alloc (.cells xs 0 0 false)) = some (.bool true, S') :=
  ev7 0 a b (.of_arg h rfl (by show 0 < 1; decide))
end Go.Proofs.YteeijgjibdhkeaaA
