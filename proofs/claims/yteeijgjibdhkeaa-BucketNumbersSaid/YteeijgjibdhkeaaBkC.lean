/- Chapter 10: behind the time that is told it goes. -/
import Derived.Test.YteeijgjibdhkeaaBkB
set_option linter.unusedVariables false
set_option linter.unusedSimpArgs false
set_option maxRecDepth 10000
namespace Go.Proofs.YteeijgjibdhkeaaA
open Go.RowKit
attribute [local congr] bind_congr1 map_congr1 cond_congr1 withX_congr after_congr br_congr gd_congr

theorem m20 (x : Int) : Go.bits .and .i64 x 1048575 = x % 1048576 := and_i64 20 (by decide) x
theorem m14 (x : Int) : Go.bits .and .i64 x 16383 = x % 16384 := and_i64 14 (by decide) x
theorem upq_one {x y : Int} (h0 : 0 < x) (h1 : x ≤ y) : upq x y = 1 := by
  unfold upq
  rw [if_neg (by omega)]
  by_cases h : x = y
  · subst h
    rw [Int.emod_self, Int.ediv_self (by omega)]; rfl
  · rw [Int.emod_eq_of_lt (by omega) (by omega), Int.ediv_eq_zero_of_lt (by omega) (by omega), if_pos (by omega)]; rfl
theorem wf_mk {n : Int} (h0 : -1152921504606846976 ≤ n) (h1 : n ≤ 1152921504606846976) : I64 n := ⟨by omega, by omega⟩
set_option maxHeartbeats 4000000 in
theorem ev4 (k : Nat) (a b n : Int) : ∃ S', evF Y AP (k + 10) 4 [.int .i64 a, .int .i64 b, .int .i64 n] S0 = some (.bool true, S') := by
  obtain ⟨r, hr⟩ : ∃ r, 1 + a % 1048576 = r := ⟨_, rfl⟩
  obtain ⟨u, hu⟩ : ∃ u, 1 + b % 16384 = u := ⟨_, rfl⟩
  have r0 : 1 ≤ r := by omega
  have r1 : r ≤ 1048576 := by omega
  have u0 : 1 ≤ u := by omega
  have u1 : u ≤ 16384 := by omega
  have wr : IntKind.i64.wrap r = r := w64_id (by omega) (by omega)
  have wu : IntKind.i64.wrap u = u := w64_id (by omega) (by omega)
  have ht : Int.tmod (n % 16384) u = n % 16384 % u := Int.tmod_eq_emod_of_nonneg (by omega)
  have hm0 := Int.emod_nonneg (n % 16384) (show u ≠ 0 by omega)
  have hm1 := Int.emod_lt_of_pos (n % 16384) (show 0 < u by omega)
  obtain ⟨m, hm⟩ : ∃ m, 1 + n % 16384 % u = m := ⟨_, rfl⟩
  have m0 : 1 ≤ m := by omega
  have m1 : m ≤ u := by omega
  have wm : IntKind.i64.wrap m = m := w64_id (by omega) (by omega)
  have hune : ¬ u = 0 := by omega
  have hB : newB r u = ⟨r, u, u * 1000000⟩ := by simp only [newB, held_id (show 0 ≤ r by omega) (show r ≤ 1099511627776 by omega), held_id (show 0 ≤ u by omega) (show u ≤ 1099511627776 by omega)]
  obtain ⟨w, hw⟩ : ∃ w, upq (m * 1000000) r = w := ⟨_, rfl⟩
  have hq := upq_bd (x := m * 1000000) (y := r) (by omega) (by omega)
  rw [hw] at hq
  obtain ⟨q0, q1, q2⟩ := hq
  obtain ⟨q2, q3⟩ := q2 (by omega)
  have w0 : 1 ≤ w := by
    rcases Int.lt_or_le 0 w with h | h
    · omega
    · have : w * r ≤ 0 * r := Int.mul_le_mul_of_nonneg_right h (by omega)
      omega
  -- the two buckets
  obtain ⟨S1, e1, b1⟩ := T8 (S := S0) (k + 5) r u
  obtain ⟨S2, e2, b2⟩ := T8 (S := S1) (k + 5) r u
  rw [hB] at b1 b2
  have ok0 : OkB ⟨r, u, u * 1000000⟩ := hB ▸ newB_ok r u
  have n1 : S1.next = 1 := b1.next
  have n2 : S2.next = 2 := by rw [b2.next, n1]
  have ga : S2.get 0 = some (bk ⟨r, u, u * 1000000⟩) := by rw [b2.else (by omega)]; exact b1.same
  have gb : S2.get 1 = some (bk ⟨r, u, u * 1000000⟩) := by have := b2.same; rwa [n1] at this
  obtain ⟨S3, e3, b3⟩ := T11 (k + 5) ok0 ga (n := u) (wf_mk (by omega) (by omega))
  have hg0 : goB ⟨r, u, u * 1000000⟩ u = true := by simp only [goB, decide_eq_true_eq]; omega
  have ht0 : takeB ⟨r, u, u * 1000000⟩ u = ⟨r, u, 0⟩ := by simp only [takeB, hg0, if_true, Int.sub_self]
  rw [hg0] at e3; rw [ht0] at b3
  have gb3 : S3.get 1 = some (bk ⟨r, u, u * 1000000⟩) := by rw [b3.else (by decide)]; exact gb
  obtain ⟨S4, e4, b4⟩ := T11 (k + 5) ok0 gb3 (n := u) (wf_mk (by omega) (by omega))
  rw [hg0] at e4; rw [ht0] at b4
  have ok1 : OkB ⟨r, u, 0⟩ := ht0 ▸ takeB_ok ok0 u
  have ga4 : S4.get 0 = some (bk ⟨r, u, 0⟩) := by rw [b4.else (by decide)]; exact b3.same
  have e5 := T13 (k + 5) ok1 ga4 (n := m) (wf_mk (by omega) (by omega))
  have hw5 : waitB ⟨r, u, 0⟩ m = w := by
    simp only [waitB]
    rw [if_neg (by omega), if_neg (by omega), if_neg (by omega), Int.sub_zero, hw]
  rw [hw5] at e5
  obtain ⟨S6, e6, b6⟩ := T10 (k + 5) ok1 ga4 w
  have gb6 : S6.get 1 = some (bk ⟨r, u, 0⟩) := by rw [b6.else (by decide)]; exact b4.same
  have ww : IntKind.i64.wrap (w - 1) = w - 1 := w64_id (by omega) (by omega)
  obtain ⟨S7, e7, b7⟩ := T10 (k + 5) ok1 gb6 (w - 1)
  have ga7 : S7.get 0 = some (bk (tickB ⟨r, u, 0⟩ w)) := by rw [b7.else (by decide)]; exact b6.same
  have gb7 := b7.same
  have okA := tickB_ok ok1 w
  have okB' := tickB_ok ok1 (w - 1)
  have q4 : r * up w = w * r := by rw [up_pos (by omega), Int.mul_comm]
  have q5 : r * up (w - 1) = w * r - r := by rw [up_pos (by omega), Int.mul_comm, Int.sub_mul, Int.one_mul]
  have lA : m * 1000000 ≤ (tickB ⟨r, u, 0⟩ w).l := by simp only [tickB, mn, q4]; split <;> omega
  have lB : (tickB ⟨r, u, 0⟩ (w - 1)).l = w * r - r := by simp only [tickB, mn, q5]; split <;> omega
  have e8 := T13 (k + 5) okA ga7 (n := m) (wf_mk (by omega) (by omega))
  have e9 := T13 (k + 5) okB' gb7 (n := m) (wf_mk (by omega) (by omega))
  have h8 : waitB (tickB ⟨r, u, 0⟩ w) m = 0 := by
    unfold waitB
    rw [if_neg (by simp only [tickB]; omega), if_pos lA]
  have h9 : waitB (tickB ⟨r, u, 0⟩ (w - 1)) m = 1 := by
    unfold waitB
    rw [if_neg (by simp only [tickB]; omega), lB, if_neg (by omega), if_neg (by simp only [tickB]; omega)]
    exact upq_one (by omega) (by simp only [tickB]; omega)
  rw [h8] at e8; rw [h9] at e9
  obtain ⟨S8, e10, b8⟩ := T11 (k + 5) okA ga7 (n := m) (wf_mk (by omega) (by omega))
  have hgA : goB (tickB ⟨r, u, 0⟩ w) m = true := by simp only [goB, decide_eq_true_eq]; omega
  rw [hgA] at e10
  have gb8 : S8.get 1 = some (bk (tickB ⟨r, u, 0⟩ (w - 1))) := by rw [b8.else (by decide)]; exact gb7
  obtain ⟨S9, e11, b9⟩ := T11 (k + 5) okB' gb8 (n := m) (wf_mk (by omega) (by omega))
  have hgB : goB (tickB ⟨r, u, 0⟩ (w - 1)) m = false := by simp only [goB, decide_eq_false_iff_not, lB]; omega
  rw [hgB] at e11
  have n0 : S0.next = 0 := rfl
  rw [n0] at e1
  rw [n1] at e2
  have c1 : ¬ w < 1 := by omega
  rw [show k + 10 = (k + 9) + 1 from rfl, evF_body (af := af4) rfl rfl rfl]
  refine ⟨_, by
    simp -implicitDefEqProofs -dsimp (maxSteps := 10000000) only [af4, ops_nil, ops_some, ops_none, oper_none, oper_some, gd_tt, gd_ff, gd_tf, gd_ft, ↓any_op, ↓any_call, ↓any_callV, ↓any_invoke, xo_t, xo_c, args_nil, args_cons, bin_add, bin_sub, bin_mul, bin_quo, bin_rem, bin_and, bin_or, bin_xor, bin_andNot, bin_eql, bin_neq, bin_lss, bin_leq, bin_gtr, bin_geq, bin_shl, bin_shr, bin_bools, bin_strs, bin_ptrs, bin_slices, bin_aggs, ↓Option.bind_some, ↓Option.map_some, ↓cond_true, ↓cond_false, evC, evOp, XO.lit, setArgs, Tr.tabG, Tr.tabS, Tr.tabL, Tr.get_lf, Option.bind_some, Option.map_some, cond_true, cond_false, maxI, maxFrom, minI, minFrom, aConv, aBinE, aEq, eqScal, aUn, evRes, fin, oneOf, if_true, if_false, callee, reduceCtorEq, Nat.reduceEqDiff, and_self, decide_true, decide_false, beq_true, beq_false, Bool.not_true, Bool.not_false, List.getElem?_cons_zero, List.getElem?_cons_succ, beq_self_eq_true, gt_iff_lt, ble_dec, beq_dec, List.head?_cons, AV.undef, eq_self, ne_eq, not_true_eq_false, not_false_eq_true, Int.reduceLT, Int.reduceLE, Int.reduceToNat, Int.reduceEq, Int.reduceNeg, Nat.reduceAdd, Nat.reduceLT, Nat.reduceLeDiff, Nat.reduceMul, Nat.reduceSub, ↓evDraw_nil, putD, evDraw, trace, List.all_cons, List.all_nil, chk, stAt, again, sameV, sameA, AV.undef, Bool.and_self, Bool.and_true, decide_eq_true_eq, List.getElem?_nil, AV.cells, AV.tup, Bool.true_and, true_and, and_true, List.drop_nil, List.append_nil, rd_put, rd_alloc, rdO, St.get_put, St.get_alloc, St.next_put, St.next_alloc, St.wr, Bool.and_self, Bool.and_true, List.length_cons, List.length_nil, List.take_succ_cons, List.take_zero, List.drop_succ_cons, List.drop_zero, List.cons_append, List.nil_append, Nat.zero_add, Nat.add_zero, Nat.reduceMul, m20, m14, hr, hu, wr, wu, ht, hune, hm, wm, e1, e2, Option.isNone_some, aBinE, aEq, Bool.not_true, e3, e4, e5, c1, e6, ww, e7, e8, e9, e10, e11, y14]
    exact rfl⟩
theorem law4 {a b n : Int} (_ : (Lit.int .i64 a).wf = true) (_ : (Lit.int .i64 b).wf = true) (_ : (Lit.int .i64 n).wf = true) : ∃ S', evF Y AP (0 + 10) 4 [.int .i64 a, .int .i64 b, .int .i64 n] S0 = some (.bool true, S') := ev4 0 a b n
end Go.Proofs.YteeijgjibdhkeaaA
