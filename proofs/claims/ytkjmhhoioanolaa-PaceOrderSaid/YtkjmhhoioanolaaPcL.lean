/- Chapter 11: PaceCounts. -/
import Derived.Test.YtkjmhhoioanolaaPcK
set_option linter.unusedVariables false
set_option linter.unusedSimpArgs false
set_option maxRecDepth 10000
namespace Go.Proofs.YtkjmhhoioanolaaA
open Go.RowKit
attribute [local congr] bind_congr1 map_congr1 cond_congr1 withX_congr after_congr br_congr gd_congr

/-- One queue. -/
structure Sg (Sb : St) (q ob : Nat) (rows : List (List Nat)) (b : Bk) (cut : Int) (S : St) : Prop where
  ext : Ext Sb S
  one : ∃ F, Qu S F q ob rows b cut ∧ ∀ j, F j → Sb.next ≤ j
theorem Sg.more {Sb S S' : St} {q ob : Nat} {rows : List (List Nat)} {b : Bk} {cut : Int} (h : Sg Sb q ob rows b cut S) (e : Ext S S') : Sg Sb q ob rows b cut S' := by
  obtain ⟨F, h1, h3⟩ := h.one
  exact ⟨h.ext.trans e, F, h1.fr (.of_ext e fun _ => False) fun _ _ h => h, h3⟩
theorem Sg.n16 {Sb S : St} {q ob : Nat} {rows : List (List Nat)} {b : Bk} {cut : Int} (h : Sg Sb q ob rows b cut S) : rows.length ≤ 16 := let ⟨_, h1, _⟩ := h.one; h1.n16
theorem Sg.asks {Sb S : St} {q ob : Nat} {rows : List (List Nat)} {b : Bk} {cut : Int} (h : Sg Sb q ob rows b cut S) (k : Nat) :
    evF Y AP (k + 1999) 12 [pt q] S = some (.int .i64 rows.length, S) ∧ evF Y AP (k + 1999) 14 [pt q] S = some (.int .i64 cut, S) := by
  obtain ⟨F, h1, h3⟩ := h.one
  exact ⟨T12 (k + 1995) h1, T14 (k + 1995) h1⟩
theorem Sg.tick {Sb S : St} {q ob : Nat} {rows : List (List Nat)} {b : Bk} {cut : Int} (h : Sg Sb q ob rows b cut S) (k : Nat) (n : Int) :
    ∃ S1, evF Y AP (k + 1999) 10 [pt q, .int .i64 n] S = some (.tuple [], S1) ∧ Sg Sb q ob rows (tickB b n) cut S1 ∧ ∃ F, Fr S S1 F ∧ ∀ j, F j → j < S.next ∧ Sb.next ≤ j := by
  obtain ⟨F, h1, h3⟩ := h.one
  obtain ⟨S1, r1, f1, Q1⟩ := T10 (k + 1991) h1 n
  exact ⟨S1, r1, ⟨f1.ext h.ext h3, F, Q1, h3⟩, F, f1, fun j hj => ⟨h1.bd j hj, h3 j hj⟩⟩
theorem Sg.go {Sb S : St} {q ob : Nat} {rows : List (List Nat)} {b : Bk} {cut : Int} (h : Sg Sb q ob rows b cut S) (k : Nat) :
    ∃ p c S1, evF Y AP (k + 1999) 11 [pt q] S = some (.slice p (goL rows b).1.length 1 c, S1) ∧ Sg Sb q ob (goL rows b).2.1 (goL rows b).2.2 cut S1 := by
  obtain ⟨F, h1, h3⟩ := h.one
  obtain ⟨p, c, S1, r1, rl, f1, Q1⟩ := T11 (k + 1979) h1
  exact ⟨p, c, S1, r1, f1.ext h.ext h3, F, Q1, h3⟩
theorem by_new {S : St} {o n : Nat} {l : List Nat} (ho : o < S.next) (bl : Byt l) (hl : l.length = n) (hn : n ≤ 100000) (g : S.get o = some (.cells (bv l) 0 0 true)) : By S (some (o, 0, 0)) 1 l :=
  ⟨.inr rfl, fun h => (by cases h), fun o' v i hp => by cases hp; exact ⟨ho, by rw [rd_cells g (Nat.le_refl _) (by rw [bv_len]; omega), List.drop_zero, List.take_of_length_le (by rw [bv_len]; exact Nat.le_refl _)]⟩, bl, by omega⟩
theorem Sg.put {Sb S : St} {q ob : Nat} {rows : List (List Nat)} {b : Bk} {cut : Int} (h : Sg Sb q ob rows b cut S) (k : Nat) {o n : Nat} {l : List Nat} (ho : o < S.next) (bl : Byt l) (hl : l.length = n) (hn : n ≤ 100000) (g : S.get o = some (.cells (bv l) 0 0 true)) :
    ∃ S1, evF Y AP (k + 1999) 9 [pt q, .slice (some (o, 0, 0)) n 1 none] S = some (.bool (putB rows b l), S1) ∧ Sg Sb q ob (putR rows b l) b (putC rows b l cut) S1 := by
  obtain ⟨F, h1, h3⟩ := h.one
  subst hl
  obtain ⟨S1, r1, f1, Q1⟩ := T9 (k + 1991) h1 (c := none) (by_new ho bl rfl hn g) (by omega)
  refine ⟨S1, r1, f1.ext h.ext h3, _, Q1, fun j hj => hj.elim (h3 j) fun hn => ?_⟩
  have := h.ext.next; omega
theorem put_count (rows : List (List Nat)) (b : Bk) (l : List Nat) {cut : Int} (h0 : 0 ≤ cut) (h1 : cut ≤ 1000) : ((putR rows b l).length : Int) + putC rows b l cut = rows.length + cut + 1 ∧ 0 ≤ putC rows b l cut ∧ putC rows b l cut ≤ cut + 1 := by
  have w : IntKind.i64.wrap (cut + 1) = cut + 1 := w64_id (by omega) (by omega)
  unfold putR putC
  rw [w]
  split
  · rw [List.length_append]; simp only [List.length_cons, List.length_nil]; omega
  · omega
theorem a2047 (x : Int) : Go.bits .and .i64 x 2047 = x % 2048 := and_i64 11 (by decide) x
structure I4 (p1 p2 : Option (Nat × Nat × Nat)) (n1 n2 q ob : Nat) (Sb : St) (m : Nat) (T : Tm) (S : St) : Prop where
  t0 : T.get 0 = some (.slice p1 n1 1 none)
  t1 : T.get 1 = some (.slice p2 n2 1 none)
  t5 : T.get 5 = some (pt q)
  more : ∃ (rows : List (List Nat)) (b : Bk) (cut : Int) (j w : Nat), T.get 8 = some (.int .i64 j) ∧ T.get 6 = some (.int .i64 j) ∧ T.get 7 = some (.int .i64 w) ∧ j ≤ 60 ∧ j + m = 60 ∧ Sg Sb q ob rows b cut S ∧ 0 ≤ cut ∧ (j : Int) = w + rows.length + cut
set_option maxHeartbeats 16000000 in
theorem round4 (k : Nat) {p1 p2 : Option (Nat × Nat × Nat)} {n1 n2 q ob : Nat} {Sb : St} (hs : Sl Sb p1 n1 [.int .i64]) (hg : Sl Sb p2 n2 [.bool]) (m : Nat) (T : Tm) (S : St) (hI : I4 p1 p2 n1 n2 q ob Sb m T S) :
    Goes (evF Y AP (k + 1999)) (k + 1999) af4_l0 T S (Then (fun T' S' => ∃ m', I4 p1 p2 n1 n2 q ob Sb m' T' S' ∧ id m' < id m) fun r T' S' => r = .exit 0) := by
  have hm1 := hs.max
  have hm2 := hg.max
  obtain ⟨t0, t1, t5, rows, b, cut, j, w, t8, t6, t7, j1, hm, G, c0, hj⟩ := hI
  by_cases c1 : (j : Int) < (n1 : Int)
  rotate_left
  · simp -implicitDefEqProofs -dsimp (maxSteps := 10000000) only [af4_l0, ↓goes_loop, ↓goes_seq, ↓goes_reg, ↓goes_dreg, ↓goes_cond, ↓goes_block, ↓goes_skip, ↓goes_exit, ↓goes_ret, after_some, br_true, br_false, ↓then_normal, ↓then_exit, ↓then_ret, ↓blk_normal, ↓blk_exit, ↓blk_ret, ↓blk_other, ops_nil, ops_some, ops_none, oper_none, oper_some, gd_tt, gd_ff, gd_tf, gd_ft, gd_undef, ↓any_op, ↓any_call, ↓any_callV, ↓any_invoke, xo_t, xo_c, args_nil, args_cons, bin_add, bin_sub, bin_mul, bin_quo, bin_rem, bin_and, bin_or, bin_xor, bin_andNot, bin_eql, bin_neq, bin_lss, bin_leq, bin_gtr, bin_geq, bin_shl, bin_shr, bin_bools, bin_strs, bin_ptrs, bin_slices, bin_aggs, ↓Option.bind_some, ↓Option.map_some, ↓cond_true, ↓cond_false, evC, evOp, XO.lit, setArgs, Tr.get_set, Option.bind_some, Option.map_some, cond_true, cond_false, maxI, maxFrom, minI, minFrom, aConv, aBinE, aEq, eqScal, aUn, evRes, fin, oneOf, if_true, if_false, callee, reduceCtorEq, Nat.reduceEqDiff, and_self, decide_true, decide_false, beq_true, beq_false, Bool.not_true, Bool.not_false, List.getElem?_cons_zero, List.getElem?_cons_succ, beq_self_eq_true, gt_iff_lt, ble_dec, beq_dec, List.head?_cons, AV.undef, eq_self, ne_eq, not_true_eq_false, not_false_eq_true, Int.reduceLT, Int.reduceLE, Int.reduceToNat, Int.reduceEq, Int.reduceNeg, Nat.reduceAdd, Nat.reduceLT, Nat.reduceLeDiff, Nat.reduceMul, Nat.reduceSub, AV.cells, AV.tup, Bool.true_and, true_and, and_true, List.drop_nil, List.append_nil, rd_put, rd_alloc, rdO, St.get_put, St.get_alloc, St.next_put, St.next_alloc, St.wr, Bool.and_self, Bool.and_true, List.length_cons, List.length_nil, List.take_succ_cons, List.take_zero, List.drop_succ_cons, List.drop_zero, List.cons_append, List.nil_append, Nat.zero_add, Nat.add_zero, Nat.reduceMul, t0, t8, c1, hm1]
  by_cases c2 : (j : Int) < 60
  rotate_left
  · simp -implicitDefEqProofs -dsimp (maxSteps := 10000000) only [af4_l0, ↓goes_loop, ↓goes_seq, ↓goes_reg, ↓goes_dreg, ↓goes_cond, ↓goes_block, ↓goes_skip, ↓goes_exit, ↓goes_ret, after_some, br_true, br_false, ↓then_normal, ↓then_exit, ↓then_ret, ↓blk_normal, ↓blk_exit, ↓blk_ret, ↓blk_other, ops_nil, ops_some, ops_none, oper_none, oper_some, gd_tt, gd_ff, gd_tf, gd_ft, gd_undef, ↓any_op, ↓any_call, ↓any_callV, ↓any_invoke, xo_t, xo_c, args_nil, args_cons, bin_add, bin_sub, bin_mul, bin_quo, bin_rem, bin_and, bin_or, bin_xor, bin_andNot, bin_eql, bin_neq, bin_lss, bin_leq, bin_gtr, bin_geq, bin_shl, bin_shr, bin_bools, bin_strs, bin_ptrs, bin_slices, bin_aggs, ↓Option.bind_some, ↓Option.map_some, ↓cond_true, ↓cond_false, evC, evOp, XO.lit, setArgs, Tr.get_set, Option.bind_some, Option.map_some, cond_true, cond_false, maxI, maxFrom, minI, minFrom, aConv, aBinE, aEq, eqScal, aUn, evRes, fin, oneOf, if_true, if_false, callee, reduceCtorEq, Nat.reduceEqDiff, and_self, decide_true, decide_false, beq_true, beq_false, Bool.not_true, Bool.not_false, List.getElem?_cons_zero, List.getElem?_cons_succ, beq_self_eq_true, gt_iff_lt, ble_dec, beq_dec, List.head?_cons, AV.undef, eq_self, ne_eq, not_true_eq_false, not_false_eq_true, Int.reduceLT, Int.reduceLE, Int.reduceToNat, Int.reduceEq, Int.reduceNeg, Nat.reduceAdd, Nat.reduceLT, Nat.reduceLeDiff, Nat.reduceMul, Nat.reduceSub, AV.cells, AV.tup, Bool.true_and, true_and, and_true, List.drop_nil, List.append_nil, rd_put, rd_alloc, rdO, St.get_put, St.get_alloc, St.next_put, St.next_alloc, St.wr, Bool.and_self, Bool.and_true, List.length_cons, List.length_nil, List.take_succ_cons, List.take_zero, List.drop_succ_cons, List.drop_zero, List.cons_append, List.nil_append, Nat.zero_add, Nat.add_zero, Nat.reduceMul, t0, t8, c1, c2, hm1]
  obtain ⟨o1, v1, i1, rfl, ho1⟩ := hs.at_ (by omega)
  obtain ⟨n, hn, wn⟩ := hs.int (j := (j : Int)) (by omega) c1
  rw [show ((j : Nat) : Int).toNat = j from rfl, Nat.mul_one] at hn
  have hz : S.rd o1 v1 (i1 + j) 1 = some [.int .i64 n] := by rw [G.ext.rd ho1]; exact hn
  have hix : ixOf (.int .i64 (j : Int)) n1 = some j := by rw [ix_ok (by omega) c1]; rfl
  have wj : IntKind.i64.wrap ((j : Int) + 1) = ((j + 1 : Nat) : Int) := w64_id (by omega) (by omega)
  obtain ⟨nn, hnn⟩ : ∃ nn : Nat, n % 2048 = (nn : Int) := ⟨(n % 2048).toNat, by omega⟩
  have an : Go.bits .and .i64 n 2047 = (nn : Int) := by rw [a2047, hnn]
  have hn1 : nn < 2048 := by omega
  have h0n : (0 : Int) ≤ (nn : Int) := by omega
  have hn2 : (nn : Int) * ((1 : Nat) : Int) ≤ 281474976710656 := by omega
  obtain ⟨A, hA⟩ : ∃ A, S.alloc (.cells (bv (List.replicate nn 0)) 0 0 true) = A := ⟨_, rfl⟩
  have eA : Ext S A := by rw [← hA]; exact .alloc _ _
  have nA : A.next = S.next + 1 := by rw [← hA]; rfl
  have gA : A.get S.next = some (.cells (bv (List.replicate nn 0)) 0 0 true) := by rw [← hA, St.get_alloc, if_pos rfl]
  have hrn : rep nn [.int .u8 0] = bv (List.replicate nn 0) := rep_bv nn
  obtain ⟨S1, r9, G1⟩ := (G.more eA).put k (by omega) (.zeros nn) List.length_replicate (by omega) gA
  obtain ⟨hc1, hc2, hc3⟩ := put_count rows b (List.replicate nn 0) c0 (by omega)
  obtain ⟨rows', hr'⟩ : ∃ r, putR rows b (List.replicate nn 0) = r := ⟨_, rfl⟩
  obtain ⟨cut', hc'⟩ : ∃ r, putC rows b (List.replicate nn 0) cut = r := ⟨_, rfl⟩
  rw [hr', hc'] at G1 hc1
  rw [hc'] at hc2 hc3
  have n16 := G1.n16
  -- the end of the round
  have fin : ∀ (rows'' : List (List Nat)) (b'' : Bk) (w' : Nat) (S2 : St), Sg Sb q ob rows'' b'' cut' S2 → ((j + 1 : Nat) : Int) = w' + rows''.length + cut' →
      (evF Y AP (k + 1999) 12 [pt q] S2 = some (.int .i64 rows''.length, S2) ∧ evF Y AP (k + 1999) 14 [pt q] S2 = some (.int .i64 cut', S2)) ∧ IntKind.i64.wrap ((w' : Int) + (rows''.length : Int)) = (w' : Int) + rows''.length ∧ IntKind.i64.wrap ((w' : Int) + (rows''.length : Int) + cut') = ((j + 1 : Nat) : Int) ∧ ¬ (16 : Int) < (rows''.length : Int) := by
    intro rows'' b'' w' S2 G2 he
    have := G2.n16
    exact ⟨G2.asks k, w64_id (by omega) (by omega), by rw [← he]; exact w64_id (by omega) (by omega), by omega⟩
  have idle : Sg Sb q ob rows' b cut' S1 → _ := fun h => fin rows' b w S1 h (by omega)
  by_cases c3 : (j : Int) < (n2 : Int)
  rotate_left
  · obtain ⟨⟨r12, r14⟩, w1, w2, w3⟩ := fin rows' b w S1 G1 (by omega)
    simp -implicitDefEqProofs -dsimp (maxSteps := 10000000) only [af4_l0, ↓goes_loop, ↓goes_seq, ↓goes_reg, ↓goes_dreg, ↓goes_cond, ↓goes_block, ↓goes_skip, ↓goes_exit, ↓goes_ret, after_some, br_true, br_false, ↓then_normal, ↓then_exit, ↓then_ret, ↓blk_normal, ↓blk_exit, ↓blk_ret, ↓blk_other, ops_nil, ops_some, ops_none, oper_none, oper_some, gd_tt, gd_ff, gd_tf, gd_ft, gd_undef, ↓any_op, ↓any_call, ↓any_callV, ↓any_invoke, xo_t, xo_c, args_nil, args_cons, bin_add, bin_sub, bin_mul, bin_quo, bin_rem, bin_and, bin_or, bin_xor, bin_andNot, bin_eql, bin_neq, bin_lss, bin_leq, bin_gtr, bin_geq, bin_shl, bin_shr, bin_bools, bin_strs, bin_ptrs, bin_slices, bin_aggs, ↓Option.bind_some, ↓Option.map_some, ↓cond_true, ↓cond_false, evC, evOp, XO.lit, setArgs, Tr.get_set, Option.bind_some, Option.map_some, cond_true, cond_false, maxI, maxFrom, minI, minFrom, aConv, aBinE, aEq, eqScal, aUn, evRes, fin, oneOf, if_true, if_false, callee, reduceCtorEq, Nat.reduceEqDiff, and_self, decide_true, decide_false, beq_true, beq_false, Bool.not_true, Bool.not_false, List.getElem?_cons_zero, List.getElem?_cons_succ, beq_self_eq_true, gt_iff_lt, ble_dec, beq_dec, List.head?_cons, AV.undef, eq_self, ne_eq, not_true_eq_false, not_false_eq_true, Int.reduceLT, Int.reduceLE, Int.reduceToNat, Int.reduceEq, Int.reduceNeg, Nat.reduceAdd, Nat.reduceLT, Nat.reduceLeDiff, Nat.reduceMul, Nat.reduceSub, AV.cells, AV.tup, Bool.true_and, true_and, and_true, List.drop_nil, List.append_nil, rd_put, rd_alloc, rdO, St.get_put, St.get_alloc, St.next_put, St.next_alloc, St.wr, Bool.and_self, Bool.and_true, List.length_cons, List.length_nil, List.take_succ_cons, List.take_zero, List.drop_succ_cons, List.drop_zero, List.cons_append, List.nil_append, Nat.zero_add, Nat.add_zero, Nat.reduceMul, aFill, evParts, newSl, t0, t1, t5, t6, t7, t8, c1, c2, c3, hm1, hm2, hix, Nat.mul_one, hz, an, h0n, hn2, Int.le_refl, Int.toNat_natCast, hrn, hA, r9, r12, r14, w1, w2, w3, wj]
    refine ⟨m - 1, ⟨?_, ?_, ?_, rows', b, cut', j + 1, w, ?_, ?_, ?_, by omega, by omega, G1, hc2, by omega⟩, by show m - 1 < m; omega⟩
    iterate 6 (simp only [Tr.get_set, Nat.reduceEqDiff, if_false, if_true, t0, t1, t5, t7])
  obtain ⟨o2, v2, i2, rfl, ho2⟩ := hg.at_ (by omega)
  obtain ⟨ky, hky⟩ := hg.bool (j := (j : Int)) (by omega) c3
  rw [show ((j : Nat) : Int).toNat = j from rfl, Nat.mul_one] at hky
  have hz2 : S1.rd o2 v2 (i2 + j) 1 = some [.bool ky] := by rw [G1.ext.rd ho2]; exact hky
  have hix2 : ixOf (.int .i64 (j : Int)) n2 = some j := by rw [ix_ok (by omega) c3]; rfl
  cases ky with
  | false =>
    obtain ⟨⟨r12, r14⟩, w1, w2, w3⟩ := fin rows' b w S1 G1 (by omega)
    simp -implicitDefEqProofs -dsimp (maxSteps := 10000000) only [af4_l0, ↓goes_loop, ↓goes_seq, ↓goes_reg, ↓goes_dreg, ↓goes_cond, ↓goes_block, ↓goes_skip, ↓goes_exit, ↓goes_ret, after_some, br_true, br_false, ↓then_normal, ↓then_exit, ↓then_ret, ↓blk_normal, ↓blk_exit, ↓blk_ret, ↓blk_other, ops_nil, ops_some, ops_none, oper_none, oper_some, gd_tt, gd_ff, gd_tf, gd_ft, gd_undef, ↓any_op, ↓any_call, ↓any_callV, ↓any_invoke, xo_t, xo_c, args_nil, args_cons, bin_add, bin_sub, bin_mul, bin_quo, bin_rem, bin_and, bin_or, bin_xor, bin_andNot, bin_eql, bin_neq, bin_lss, bin_leq, bin_gtr, bin_geq, bin_shl, bin_shr, bin_bools, bin_strs, bin_ptrs, bin_slices, bin_aggs, ↓Option.bind_some, ↓Option.map_some, ↓cond_true, ↓cond_false, evC, evOp, XO.lit, setArgs, Tr.get_set, Option.bind_some, Option.map_some, cond_true, cond_false, maxI, maxFrom, minI, minFrom, aConv, aBinE, aEq, eqScal, aUn, evRes, fin, oneOf, if_true, if_false, callee, reduceCtorEq, Nat.reduceEqDiff, and_self, decide_true, decide_false, beq_true, beq_false, Bool.not_true, Bool.not_false, List.getElem?_cons_zero, List.getElem?_cons_succ, beq_self_eq_true, gt_iff_lt, ble_dec, beq_dec, List.head?_cons, AV.undef, eq_self, ne_eq, not_true_eq_false, not_false_eq_true, Int.reduceLT, Int.reduceLE, Int.reduceToNat, Int.reduceEq, Int.reduceNeg, Nat.reduceAdd, Nat.reduceLT, Nat.reduceLeDiff, Nat.reduceMul, Nat.reduceSub, AV.cells, AV.tup, Bool.true_and, true_and, and_true, List.drop_nil, List.append_nil, rd_put, rd_alloc, rdO, St.get_put, St.get_alloc, St.next_put, St.next_alloc, St.wr, Bool.and_self, Bool.and_true, List.length_cons, List.length_nil, List.take_succ_cons, List.take_zero, List.drop_succ_cons, List.drop_zero, List.cons_append, List.nil_append, Nat.zero_add, Nat.add_zero, Nat.reduceMul, aFill, evParts, newSl, t0, t1, t5, t6, t7, t8, c1, c2, c3, hm1, hm2, hix, hix2, Nat.mul_one, hz, hz2, an, h0n, hn2, Int.le_refl, Int.toNat_natCast, hrn, hA, r9, r12, r14, w1, w2, w3, wj]
    refine ⟨m - 1, ⟨?_, ?_, ?_, rows', b, cut', j + 1, w, ?_, ?_, ?_, by omega, by omega, G1, hc2, by omega⟩, by show m - 1 < m; omega⟩
    iterate 6 (simp only [Tr.get_set, Nat.reduceEqDiff, if_false, if_true, t0, t1, t5, t7])
  | true =>
    obtain ⟨S2, r10, G2, _⟩ := G1.tick k 20000
    obtain ⟨pg, cg, S3, r11, G3⟩ := G2.go k
    have hgl := goL_len rows' (tickB b 20000)
    obtain ⟨ng, hng⟩ : ∃ ng, (goL rows' (tickB b 20000)).1.length = ng := ⟨_, rfl⟩
    rw [hng] at r11 hgl
    have hm3 : ng ≤ 9223372036854775807 := by omega
    have wg : IntKind.i64.wrap ((w : Int) + (ng : Int)) = ((w + ng : Nat) : Int) := w64_id (by omega) (by omega)
    obtain ⟨⟨r12, r14⟩, w1, w2, w3⟩ := fin _ _ (w + ng) S3 G3 (by omega)
    simp -implicitDefEqProofs -dsimp (maxSteps := 10000000) only [af4_l0, ↓goes_loop, ↓goes_seq, ↓goes_reg, ↓goes_dreg, ↓goes_cond, ↓goes_block, ↓goes_skip, ↓goes_exit, ↓goes_ret, after_some, br_true, br_false, ↓then_normal, ↓then_exit, ↓then_ret, ↓blk_normal, ↓blk_exit, ↓blk_ret, ↓blk_other, ops_nil, ops_some, ops_none, oper_none, oper_some, gd_tt, gd_ff, gd_tf, gd_ft, gd_undef, ↓any_op, ↓any_call, ↓any_callV, ↓any_invoke, xo_t, xo_c, args_nil, args_cons, bin_add, bin_sub, bin_mul, bin_quo, bin_rem, bin_and, bin_or, bin_xor, bin_andNot, bin_eql, bin_neq, bin_lss, bin_leq, bin_gtr, bin_geq, bin_shl, bin_shr, bin_bools, bin_strs, bin_ptrs, bin_slices, bin_aggs, ↓Option.bind_some, ↓Option.map_some, ↓cond_true, ↓cond_false, evC, evOp, XO.lit, setArgs, Tr.get_set, Option.bind_some, Option.map_some, cond_true, cond_false, maxI, maxFrom, minI, minFrom, aConv, aBinE, aEq, eqScal, aUn, evRes, fin, oneOf, if_true, if_false, callee, reduceCtorEq, Nat.reduceEqDiff, and_self, decide_true, decide_false, beq_true, beq_false, Bool.not_true, Bool.not_false, List.getElem?_cons_zero, List.getElem?_cons_succ, beq_self_eq_true, gt_iff_lt, ble_dec, beq_dec, List.head?_cons, AV.undef, eq_self, ne_eq, not_true_eq_false, not_false_eq_true, Int.reduceLT, Int.reduceLE, Int.reduceToNat, Int.reduceEq, Int.reduceNeg, Nat.reduceAdd, Nat.reduceLT, Nat.reduceLeDiff, Nat.reduceMul, Nat.reduceSub, AV.cells, AV.tup, Bool.true_and, true_and, and_true, List.drop_nil, List.append_nil, rd_put, rd_alloc, rdO, St.get_put, St.get_alloc, St.next_put, St.next_alloc, St.wr, Bool.and_self, Bool.and_true, List.length_cons, List.length_nil, List.take_succ_cons, List.take_zero, List.drop_succ_cons, List.drop_zero, List.cons_append, List.nil_append, Nat.zero_add, Nat.add_zero, Nat.reduceMul, aFill, evParts, newSl, t0, t1, t5, t6, t7, t8, c1, c2, c3, hm1, hm2, hm3, hix, hix2, Nat.mul_one, hz, hz2, an, h0n, hn2, Int.le_refl, Int.toNat_natCast, hrn, hA, r9, r10, r11, wg, r12, r14, w1, w2, w3, wj]
    refine ⟨m - 1, ⟨?_, ?_, ?_, _, _, cut', j + 1, w + ng, ?_, ?_, ?_, by omega, by omega, G3, hc2, by omega⟩, by show m - 1 < m; omega⟩
    iterate 6 (simp only [Tr.get_set, Nat.reduceEqDiff, if_false, if_true, t0, t1, t5, t7])
set_option maxHeartbeats 4000000 in
theorem ev4 (k : Nat) {p1 p2 : Option (Nat × Nat × Nat)} {n1 n2 : Nat} {S : St} (h1 : Sl S p1 n1 [.int .i64]) (h2 : Sl S p2 n2 [.bool]) :
    ∃ S', evF Y AP (k + 2000) 4 [.slice p1 n1 1 none, .slice p2 n2 1 none] S = some (.bool true, S') := by
  suffices hh : ∃ v S', evF Y AP (k + 2000) 4 [.slice p1 n1 1 none, .slice p2 n2 1 none] S = some (v, S') ∧ v = .bool true by
    obtain ⟨v, S', h1, rfl⟩ := hh; exact ⟨S', h1⟩
  obtain ⟨S1, r1, e1, n1', Q1⟩ := T7 (S := S) (k + 1991) 3000 1500
  have r1 : evF Y AP (k + 1999) 7 [.int .i64 3000, .int .i64 1500] S = _ := r1
  have G : Sg S (S.next + 1) S.next [] (newB 3000 1500) 0 S1 := ⟨e1, _, Q1, fun j hj => hj.1⟩
  refine evF_goes (af := af4) (k := k + 1999) rfl rfl rfl ?_
  simp -implicitDefEqProofs -dsimp (maxSteps := 10000000) only [af4, ↓goes_loop, ↓goes_seq, ↓goes_reg, ↓goes_dreg, ↓goes_cond, ↓goes_block, ↓goes_skip, ↓goes_exit, ↓goes_ret, after_some, br_true, br_false, ↓then_normal, ↓then_exit, ↓then_ret, ↓blk_normal, ↓blk_exit, ↓blk_ret, ↓blk_other, ops_nil, ops_some, ops_none, oper_none, oper_some, gd_tt, gd_ff, gd_tf, gd_ft, gd_undef, ↓any_op, ↓any_call, ↓any_callV, ↓any_invoke, xo_t, xo_c, args_nil, args_cons, bin_add, bin_sub, bin_mul, bin_quo, bin_rem, bin_and, bin_or, bin_xor, bin_andNot, bin_eql, bin_neq, bin_lss, bin_leq, bin_gtr, bin_geq, bin_shl, bin_shr, bin_bools, bin_strs, bin_ptrs, bin_slices, bin_aggs, ↓Option.bind_some, ↓Option.map_some, ↓cond_true, ↓cond_false, evC, evOp, XO.lit, setArgs, Tr.tabG, Tr.tabS, Tr.tabL, Tr.get_lf, Option.bind_some, Option.map_some, cond_true, cond_false, maxI, maxFrom, minI, minFrom, aConv, aBinE, aEq, eqScal, aUn, evRes, fin, oneOf, if_true, if_false, callee, reduceCtorEq, Nat.reduceEqDiff, and_self, decide_true, decide_false, beq_true, beq_false, Bool.not_true, Bool.not_false, List.getElem?_cons_zero, List.getElem?_cons_succ, beq_self_eq_true, gt_iff_lt, ble_dec, beq_dec, List.head?_cons, AV.undef, eq_self, ne_eq, not_true_eq_false, not_false_eq_true, Int.reduceLT, Int.reduceLE, Int.reduceToNat, Int.reduceEq, Int.reduceNeg, Nat.reduceAdd, Nat.reduceLT, Nat.reduceLeDiff, Nat.reduceMul, Nat.reduceSub, Option.isNone_some, r1]
  refine .while (I4 p1 p2 n1 n2 (S.next + 1) S.next S) id 60 ⟨rfl, rfl, rfl, [], newB 3000 1500, 0, 0, 0, rfl, rfl, rfl, by omega, by omega, G, by omega, by simp⟩ (by show 60 < k + 1999; omega) fun m2 T2 S2 hI => (round4 k h1 h2 m2 T2 S2 hI).mono ?_
  intro r T' S' hq
  cases r with
  | normal => exact hq
  | ret => cases (hq : Ex.ret = .exit 0)
  | exit i =>
    cases (hq : Ex.exit i = .exit 0)
    simp -implicitDefEqProofs -dsimp (maxSteps := 10000000) only [↓goes_loop, ↓goes_seq, ↓goes_reg, ↓goes_dreg, ↓goes_cond, ↓goes_block, ↓goes_skip, ↓goes_exit, ↓goes_ret, after_some, br_true, br_false, ↓then_normal, ↓then_exit, ↓then_ret, ↓blk_normal, ↓blk_exit, ↓blk_ret, ↓blk_other, ops_nil, ops_some, ops_none, oper_none, oper_some, gd_tt, gd_ff, gd_tf, gd_ft, gd_undef, ↓any_op, ↓any_call, ↓any_callV, ↓any_invoke, xo_t, xo_c, args_nil, args_cons, bin_add, bin_sub, bin_mul, bin_quo, bin_rem, bin_and, bin_or, bin_xor, bin_andNot, bin_eql, bin_neq, bin_lss, bin_leq, bin_gtr, bin_geq, bin_shl, bin_shr, bin_bools, bin_strs, bin_ptrs, bin_slices, bin_aggs, ↓Option.bind_some, ↓Option.map_some, ↓cond_true, ↓cond_false, evC, evOp, XO.lit, setArgs, Tr.get_set, Option.bind_some, Option.map_some, cond_true, cond_false, maxI, maxFrom, minI, minFrom, aConv, aBinE, aEq, eqScal, aUn, evRes, fin, oneOf, if_true, if_false, callee, reduceCtorEq, Nat.reduceEqDiff, and_self, decide_true, decide_false, beq_true, beq_false, Bool.not_true, Bool.not_false, List.getElem?_cons_zero, List.getElem?_cons_succ, beq_self_eq_true, gt_iff_lt, ble_dec, beq_dec, List.head?_cons, AV.undef, eq_self, ne_eq, not_true_eq_false, not_false_eq_true, Int.reduceLT, Int.reduceLE, Int.reduceToNat, Int.reduceEq, Int.reduceNeg, Nat.reduceAdd, Nat.reduceLT, Nat.reduceLeDiff, Nat.reduceMul, Nat.reduceSub, AV.cells, AV.tup, Bool.true_and, true_and, and_true, List.drop_nil, List.append_nil, rd_put, rd_alloc, rdO, St.get_put, St.get_alloc, St.next_put, St.next_alloc, St.wr, Bool.and_self, Bool.and_true, List.length_cons, List.length_nil, List.take_succ_cons, List.take_zero, List.drop_succ_cons, List.drop_zero, List.cons_append, List.nil_append, Nat.zero_add, Nat.add_zero, Nat.reduceMul, y13]
    exact ⟨_, _, rfl, rfl⟩
theorem law4 {p1 p2 : Option (Nat × Nat × Nat)} {n1 n2 : Nat} {xs ys : List AV} (h1 : Arg p1 0 n1 [.int .i64] xs) (h2 : Arg p2 1 n2 [.bool] ys) :
    ∃ S', evF Y AP (0 + 2000) 4 [.slice p1 n1 1 none, .slice p2 n2 1 none] ((S0.alloc (.cells xs 0 0 false)).alloc (.cells ys 0 0 false)) = some (.bool true, S') :=
  ev4 0 (.of_arg h1 (by simp only [St.get_alloc]; rfl) (by show 0 < 2; decide)) (.of_arg h2 (by rw [St.get_alloc]; rfl) (by show 1 < 2; decide))
end Go.Proofs.YtkjmhhoioanolaaA
