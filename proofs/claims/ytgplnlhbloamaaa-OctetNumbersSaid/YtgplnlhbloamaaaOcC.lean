/- Chapter 1: numbers of bytes, padding, the document's own. -/
import Derived.Test.YtgplnlhbloamaaaOcB
set_option linter.unusedVariables false
set_option linter.unusedSimpArgs false
set_option maxRecDepth 10000
namespace Go.Proofs.YtgplnlhbloamaaaA
open Go.RowKit
attribute [local congr] bind_congr1 map_congr1 cond_congr1 withX_congr after_congr br_congr gd_congr

/-- A number of bytes, the highest first. -/
def hvF (n : Nat) (l : List Nat) : Nat := l.foldl (fun n c => n * 256 + c) n
theorem hvF_cons (n b : Nat) (l : List Nat) : hvF n (b :: l) = hvF (n * 256 + b) l := rfl
theorem hvF_nil (n : Nat) : hvF n [] = n := rfl
def hv (l : List Nat) : Nat := hvF 0 l
theorem hvF_lt : ∀ (l : List Nat) (n m : Nat), Byt l → n < 256 ^ m → hvF n l < 256 ^ (m + l.length)
  | [], n, m, _, h => h
  | b :: l, n, m, hb, h => by
    rw [hvF_cons, List.length_cons, show m + (l.length + 1) = (m + 1) + l.length by omega]
    refine hvF_lt l _ _ (fun x hx => hb x (List.mem_cons_of_mem _ hx)) ?_
    have := hb b List.mem_cons_self
    rw [Nat.pow_succ]
    omega
theorem or_step {n b j : Nat} (hn : n < 256 ^ j) (hj : j ≤ 7) (hb : b < 256) : IntKind.u64.wrap ((n : Int) * 2 ^ min 8 IntKind.u64.bits) = (n : Int) * 256 ∧ IntKind.u64.wrap (b : Int) = (b : Int) ∧
    Go.bits .or .u64 ((n : Int) * 256) (b : Int) = ((n * 256 + b : Nat) : Int) ∧ n * 256 + b < 256 ^ (j + 1) := by
  have h1 : 256 ^ j ≤ 256 ^ 7 := Nat.pow_le_pow_right (by decide) hj
  have h2 : (256 : Nat) ^ 7 = 72057594037927936 := rfl
  have h3 : ((n : Int) * 2 ^ min 8 IntKind.u64.bits) = (n : Int) * 256 := rfl
  refine ⟨?_, u64_id (by omega) (by omega), ?_, ?_⟩
  · rw [h3]; exact u64_id (by omega) (by omega)
  · rw [Go.bits_join .u64 64 (by decide) (fun m m0 m1 => u64_id m0 (by simpa using m1)) 8 ((n : Int) * 256) (b : Int) (by omega) (by omega) (by omega) (by omega) (by omega) (by omega)]
    omega
  · rw [Nat.pow_succ]; omega
def getL (l : List Nat) (a n : Int) : Nat := if cutOk l a n ∧ 1 ≤ n ∧ n ≤ 8 then hv (cutL l a n) else 0
def getOk (l : List Nat) (a n : Int) : Bool := decide (cutOk l a n ∧ 1 ≤ n ∧ n ≤ 8)
structure I12 (p : Option (Nat × Nat × Nat)) (e : Nat) (c : Option Nat) (l : List Nat) (Sb : St) (m : Nat) (T : Tm) (S : St) : Prop where
  t30 : T.get 30 = some (.slice p l.length e c)
  t31 : T.get 31 = some (.int .i64 l.length)
  st : S = Sb
  more : ∃ j n : Nat, T.get 32 = some (.int .i64 j) ∧ T.get 10 = some (.int .u64 n) ∧ j + m = l.length ∧ n < 256 ^ j ∧ hvF n (l.drop j) = hv l
section
variable {S : St} {p : Option (Nat × Nat × Nat)} {e : Nat} {c : Option Nat} {l : List Nat} (k : Nat)
set_option maxHeartbeats 1000000 in
theorem round12 {Sb : St} (h : By Sb p e l) (h8 : l.length ≤ 8) (m : Nat) (T : Tm) (S : St) (hI : I12 p e c l Sb m T S) :
    Goes (evF X0 AP (k + 19)) (k + 19) af12_l0 T S (Then (fun T' S' => ∃ m', I12 p e c l Sb m' T' S' ∧ id m' < id m) fun r T' S' => r = .exit 0 ∧ I12 p e c l Sb 0 T' S') := by
  obtain ⟨t30, t31, rfl, j, n, t32, t10, hj, hn, hv'⟩ := hI
  rcases m with _ | m
  · have c0 : ¬ (j : Int) < (l.length : Int) := by omega
    simp -implicitDefEqProofs -dsimp (maxSteps := 10000000) only [af12_l0, ↓goes_loop, ↓goes_seq, ↓goes_reg, ↓goes_dreg, ↓goes_cond, ↓goes_block, ↓goes_skip, ↓goes_exit, ↓goes_ret, after_some, br_true, br_false, ↓then_normal, ↓then_exit, ↓then_ret, ↓blk_normal, ↓blk_exit, ↓blk_ret, ↓blk_other, ops_nil, ops_some, ops_none, oper_none, oper_some, gd_tt, gd_ff, gd_tf, gd_ft, gd_undef, ↓any_op, ↓any_call, ↓any_callV, ↓any_invoke, xo_t, xo_c, args_nil, args_cons, bin_add, bin_sub, bin_mul, bin_quo, bin_rem, bin_and, bin_or, bin_xor, bin_andNot, bin_eql, bin_neq, bin_lss, bin_leq, bin_gtr, bin_geq, bin_shl, bin_shr, bin_bools, bin_strs, bin_ptrs, bin_slices, bin_aggs, ↓Option.bind_some, ↓Option.map_some, ↓cond_true, ↓cond_false, evC, evOp, XO.lit, setArgs, Tr.get_set, Option.bind_some, Option.map_some, cond_true, cond_false, maxI, maxFrom, minI, minFrom, aConv, aBinE, aEq, eqScal, aUn, evRes, fin, oneOf, if_true, if_false, callee, reduceCtorEq, Nat.reduceEqDiff, and_self, decide_true, decide_false, beq_true, beq_false, Bool.not_true, Bool.not_false, List.getElem?_cons_zero, List.getElem?_cons_succ, beq_self_eq_true, gt_iff_lt, ble_dec, beq_dec, List.head?_cons, AV.undef, eq_self, ne_eq, not_true_eq_false, not_false_eq_true, Int.reduceLT, Int.reduceLE, Int.reduceToNat, Int.reduceEq, Int.reduceNeg, Nat.reduceAdd, Nat.reduceLT, Nat.reduceLeDiff, Nat.reduceMul, Nat.reduceSub, AV.cells, AV.tup, Bool.true_and, true_and, and_true, List.drop_nil, List.append_nil, rd_put, rd_alloc, rdO, St.get_put, St.get_alloc, St.next_put, St.next_alloc, St.wr, Bool.and_self, Bool.and_true, List.length_cons, List.length_nil, List.take_succ_cons, List.take_zero, List.drop_succ_cons, List.drop_zero, List.cons_append, List.nil_append, Nat.zero_add, Nat.add_zero, Nat.reduceMul, t30, t31, t32, t10, c0]
    refine ⟨?_, ?_, rfl, j, n, ?_, ?_, hj, hn, hv'⟩ <;> simp only [Tr.get_set, Nat.reduceEqDiff, if_false, if_true, t30, t31, t32, t10]
  · have c0 : (j : Int) < (l.length : Int) := by omega
    rcases p with _ | ⟨o, v, i⟩
    · have := h.nil rfl; rw [this] at hj; simp at hj
    obtain rfl := h.ez.resolve_left (by simp)
    have hb := h.bd l[j] (List.getElem_mem (by omega))
    obtain ⟨s1, s2, s3, s4⟩ := or_step hn (by omega) hb
    have hix : ixOf (.int .i64 (j : Int)) l.length = some j := by rw [ix_ok (by omega) c0]; rfl
    have hrd := h.get (j := j) (by omega)
    have w1 : IntKind.i64.wrap ((j : Int) + 1) = ((j + 1 : Nat) : Int) := w64_id (by omega) (by omega)
    obtain ⟨b, hbb⟩ : ∃ b, l[j] = b := ⟨_, rfl⟩
    rw [hbb] at hb s2 s3 s4 hrd
    have cs : ¬ (8 : Int) < 0 := by decide
    simp -implicitDefEqProofs -dsimp (maxSteps := 10000000) only [af12_l0, ↓goes_loop, ↓goes_seq, ↓goes_reg, ↓goes_dreg, ↓goes_cond, ↓goes_block, ↓goes_skip, ↓goes_exit, ↓goes_ret, after_some, br_true, br_false, ↓then_normal, ↓then_exit, ↓then_ret, ↓blk_normal, ↓blk_exit, ↓blk_ret, ↓blk_other, ops_nil, ops_some, ops_none, oper_none, oper_some, gd_tt, gd_ff, gd_tf, gd_ft, gd_undef, ↓any_op, ↓any_call, ↓any_callV, ↓any_invoke, xo_t, xo_c, args_nil, args_cons, bin_add, bin_sub, bin_mul, bin_quo, bin_rem, bin_and, bin_or, bin_xor, bin_andNot, bin_eql, bin_neq, bin_lss, bin_leq, bin_gtr, bin_geq, bin_shl, bin_shr, bin_bools, bin_strs, bin_ptrs, bin_slices, bin_aggs, ↓Option.bind_some, ↓Option.map_some, ↓cond_true, ↓cond_false, evC, evOp, XO.lit, setArgs, Tr.get_set, Option.bind_some, Option.map_some, cond_true, cond_false, maxI, maxFrom, minI, minFrom, aConv, aBinE, aEq, eqScal, aUn, evRes, fin, oneOf, if_true, if_false, callee, reduceCtorEq, Nat.reduceEqDiff, and_self, decide_true, decide_false, beq_true, beq_false, Bool.not_true, Bool.not_false, List.getElem?_cons_zero, List.getElem?_cons_succ, beq_self_eq_true, gt_iff_lt, ble_dec, beq_dec, List.head?_cons, AV.undef, eq_self, ne_eq, not_true_eq_false, not_false_eq_true, Int.reduceLT, Int.reduceLE, Int.reduceToNat, Int.reduceEq, Int.reduceNeg, Nat.reduceAdd, Nat.reduceLT, Nat.reduceLeDiff, Nat.reduceMul, Nat.reduceSub, AV.cells, AV.tup, Bool.true_and, true_and, and_true, List.drop_nil, List.append_nil, rd_put, rd_alloc, rdO, St.get_put, St.get_alloc, St.next_put, St.next_alloc, St.wr, Bool.and_self, Bool.and_true, List.length_cons, List.length_nil, List.take_succ_cons, List.take_zero, List.drop_succ_cons, List.drop_zero, List.cons_append, List.nil_append, Nat.zero_add, Nat.add_zero, Nat.reduceMul, t30, t31, t32, t10, c0, hix, Nat.mul_one, hrd, cs, s1, s2, s3, w1]
    refine ⟨m, ⟨?_, ?_, rfl, j + 1, n * 256 + b, ?_, ?_, by omega, s4, ?_⟩, Nat.lt_succ_self m⟩
    rotate_right
    · rw [← hv', List.drop_eq_getElem_cons (show j < l.length by omega), hvF_cons, hbb]
    all_goals simp only [Tr.get_set, Nat.reduceEqDiff, if_false, if_true, t30, t31, t32, t10]
set_option maxHeartbeats 1000000 in
/-- octet.Get -/
theorem T12 (h : By S p e l) (hr : l.length ≤ 140737488351500) {a n : Int} (ha : I64 a) (hn : I64 n) :
    ∃ S', evF X0 AP (k + 20) 12 [.slice p l.length e c, .int .i64 a, .int .i64 n] S = some (.tuple [.int .u64 (getL l a n), .bool (getOk l a n)], S') ∧ Ext S S' := by
  suffices hh : ∃ v S', evF X0 AP (k + 20) 12 [.slice p l.length e c, .int .i64 a, .int .i64 n] S = some (v, S') ∧ (v = .tuple [.int .u64 (getL l a n), .bool (getOk l a n)] ∧ Ext S S') by
    obtain ⟨v, S', h1, rfl, h2⟩ := hh; exact ⟨S', h1, h2⟩
  obtain ⟨v1, S1, h14, hb1, x1⟩ := T14 (k + 15) (c := c) h hr ha hn
  have h14 : evF X0 AP (k + 19) 14 [.slice p l.length e c, .int .i64 a, .int .i64 n] S = some (.tuple [v1, .bool (decide (cutOk l a n))], S1) := h14
  refine evF_goes (af := af12) (k := k + 19) rfl rfl rfl ?_
  by_cases c0 : cutOk l a n
  · rw [decide_eq_true c0] at h14
    by_cases c1 : n < 1
    · have hf : ¬ (cutOk l a n ∧ 1 ≤ n ∧ n ≤ 8) := by omega
      simp -implicitDefEqProofs -dsimp (maxSteps := 10000000) only [af12, ↓goes_loop, ↓goes_seq, ↓goes_reg, ↓goes_dreg, ↓goes_cond, ↓goes_block, ↓goes_skip, ↓goes_exit, ↓goes_ret, after_some, br_true, br_false, ↓then_normal, ↓then_exit, ↓then_ret, ↓blk_normal, ↓blk_exit, ↓blk_ret, ↓blk_other, ops_nil, ops_some, ops_none, oper_none, oper_some, gd_tt, gd_ff, gd_tf, gd_ft, gd_undef, ↓any_op, ↓any_call, ↓any_callV, ↓any_invoke, xo_t, xo_c, args_nil, args_cons, bin_add, bin_sub, bin_mul, bin_quo, bin_rem, bin_and, bin_or, bin_xor, bin_andNot, bin_eql, bin_neq, bin_lss, bin_leq, bin_gtr, bin_geq, bin_shl, bin_shr, bin_bools, bin_strs, bin_ptrs, bin_slices, bin_aggs, ↓Option.bind_some, ↓Option.map_some, ↓cond_true, ↓cond_false, evC, evOp, XO.lit, setArgs, Tr.tabG, Tr.tabS, Tr.tabL, Tr.get_lf, Option.bind_some, Option.map_some, cond_true, cond_false, maxI, maxFrom, minI, minFrom, aConv, aBinE, aEq, eqScal, aUn, evRes, fin, oneOf, if_true, if_false, callee, reduceCtorEq, Nat.reduceEqDiff, and_self, decide_true, decide_false, beq_true, beq_false, Bool.not_true, Bool.not_false, List.getElem?_cons_zero, List.getElem?_cons_succ, beq_self_eq_true, gt_iff_lt, ble_dec, beq_dec, List.head?_cons, AV.undef, eq_self, ne_eq, not_true_eq_false, not_false_eq_true, Int.reduceLT, Int.reduceLE, Int.reduceToNat, Int.reduceEq, Int.reduceNeg, Nat.reduceAdd, Nat.reduceLT, Nat.reduceLeDiff, Nat.reduceMul, Nat.reduceSub, h14, c1]
      exact ⟨_, _, rfl, by rw [getL, getOk, if_neg hf, decide_eq_false hf]; rfl, x1⟩
    by_cases c2 : 8 < n
    · have hf : ¬ (cutOk l a n ∧ 1 ≤ n ∧ n ≤ 8) := by omega
      simp -implicitDefEqProofs -dsimp (maxSteps := 10000000) only [af12, ↓goes_loop, ↓goes_seq, ↓goes_reg, ↓goes_dreg, ↓goes_cond, ↓goes_block, ↓goes_skip, ↓goes_exit, ↓goes_ret, after_some, br_true, br_false, ↓then_normal, ↓then_exit, ↓then_ret, ↓blk_normal, ↓blk_exit, ↓blk_ret, ↓blk_other, ops_nil, ops_some, ops_none, oper_none, oper_some, gd_tt, gd_ff, gd_tf, gd_ft, gd_undef, ↓any_op, ↓any_call, ↓any_callV, ↓any_invoke, xo_t, xo_c, args_nil, args_cons, bin_add, bin_sub, bin_mul, bin_quo, bin_rem, bin_and, bin_or, bin_xor, bin_andNot, bin_eql, bin_neq, bin_lss, bin_leq, bin_gtr, bin_geq, bin_shl, bin_shr, bin_bools, bin_strs, bin_ptrs, bin_slices, bin_aggs, ↓Option.bind_some, ↓Option.map_some, ↓cond_true, ↓cond_false, evC, evOp, XO.lit, setArgs, Tr.tabG, Tr.tabS, Tr.tabL, Tr.get_lf, Option.bind_some, Option.map_some, cond_true, cond_false, maxI, maxFrom, minI, minFrom, aConv, aBinE, aEq, eqScal, aUn, evRes, fin, oneOf, if_true, if_false, callee, reduceCtorEq, Nat.reduceEqDiff, and_self, decide_true, decide_false, beq_true, beq_false, Bool.not_true, Bool.not_false, List.getElem?_cons_zero, List.getElem?_cons_succ, beq_self_eq_true, gt_iff_lt, ble_dec, beq_dec, List.head?_cons, AV.undef, eq_self, ne_eq, not_true_eq_false, not_false_eq_true, Int.reduceLT, Int.reduceLE, Int.reduceToNat, Int.reduceEq, Int.reduceNeg, Nat.reduceAdd, Nat.reduceLT, Nat.reduceLeDiff, Nat.reduceMul, Nat.reduceSub, h14, c1, c2]
      exact ⟨_, _, rfl, by rw [getL, getOk, if_neg hf, decide_eq_false hf]; rfl, x1⟩
    have ht : cutOk l a n ∧ 1 ≤ n ∧ n ≤ 8 := ⟨c0, by omega, by omega⟩
    obtain ⟨p1, e1, cc, rfl, hb1⟩ := hb1
    have hl8 : (cutL l a n).length ≤ 8 := by rw [cutL_len c0]; omega
    have hm1 : (cutL l a n).length ≤ 9223372036854775807 := by omega
    simp -implicitDefEqProofs -dsimp (maxSteps := 10000000) only [af12, ↓goes_loop, ↓goes_seq, ↓goes_reg, ↓goes_dreg, ↓goes_cond, ↓goes_block, ↓goes_skip, ↓goes_exit, ↓goes_ret, after_some, br_true, br_false, ↓then_normal, ↓then_exit, ↓then_ret, ↓blk_normal, ↓blk_exit, ↓blk_ret, ↓blk_other, ops_nil, ops_some, ops_none, oper_none, oper_some, gd_tt, gd_ff, gd_tf, gd_ft, gd_undef, ↓any_op, ↓any_call, ↓any_callV, ↓any_invoke, xo_t, xo_c, args_nil, args_cons, bin_add, bin_sub, bin_mul, bin_quo, bin_rem, bin_and, bin_or, bin_xor, bin_andNot, bin_eql, bin_neq, bin_lss, bin_leq, bin_gtr, bin_geq, bin_shl, bin_shr, bin_bools, bin_strs, bin_ptrs, bin_slices, bin_aggs, ↓Option.bind_some, ↓Option.map_some, ↓cond_true, ↓cond_false, evC, evOp, XO.lit, setArgs, Tr.tabG, Tr.tabS, Tr.tabL, Tr.get_lf, Option.bind_some, Option.map_some, cond_true, cond_false, maxI, maxFrom, minI, minFrom, aConv, aBinE, aEq, eqScal, aUn, evRes, fin, oneOf, if_true, if_false, callee, reduceCtorEq, Nat.reduceEqDiff, and_self, decide_true, decide_false, beq_true, beq_false, Bool.not_true, Bool.not_false, List.getElem?_cons_zero, List.getElem?_cons_succ, beq_self_eq_true, gt_iff_lt, ble_dec, beq_dec, List.head?_cons, AV.undef, eq_self, ne_eq, not_true_eq_false, not_false_eq_true, Int.reduceLT, Int.reduceLE, Int.reduceToNat, Int.reduceEq, Int.reduceNeg, Nat.reduceAdd, Nat.reduceLT, Nat.reduceLeDiff, Nat.reduceMul, Nat.reduceSub, h14, c1, c2, hm1]
    refine .while (I12 p1 e1 cc (cutL l a n) S1) id (cutL l a n).length ⟨rfl, rfl, rfl, 0, 0, rfl, rfl, by omega, by decide, rfl⟩ (by show (cutL l a n).length < k + 19; omega) fun m T2 S2 h2 => (round12 k hb1 hl8 m T2 S2 h2).mono ?_
    intro r T' S' hq
    cases r with
    | normal => exact hq
    | ret => exact absurd hq.1 (by simp)
    | exit i =>
      obtain ⟨hi, t30, t31, rfl, j, x, t32, t10, hj, hx, hxv⟩ := hq
      cases hi
      have : x = getL l a n := by
        rw [getL, if_pos ht, ← hxv, List.drop_of_length_le (by omega)]; rfl
      simp -implicitDefEqProofs -dsimp (maxSteps := 10000000) only [↓goes_loop, ↓goes_seq, ↓goes_reg, ↓goes_dreg, ↓goes_cond, ↓goes_block, ↓goes_skip, ↓goes_exit, ↓goes_ret, after_some, br_true, br_false, ↓then_normal, ↓then_exit, ↓then_ret, ↓blk_normal, ↓blk_exit, ↓blk_ret, ↓blk_other, ops_nil, ops_some, ops_none, oper_none, oper_some, gd_tt, gd_ff, gd_tf, gd_ft, gd_undef, ↓any_op, ↓any_call, ↓any_callV, ↓any_invoke, xo_t, xo_c, args_nil, args_cons, bin_add, bin_sub, bin_mul, bin_quo, bin_rem, bin_and, bin_or, bin_xor, bin_andNot, bin_eql, bin_neq, bin_lss, bin_leq, bin_gtr, bin_geq, bin_shl, bin_shr, bin_bools, bin_strs, bin_ptrs, bin_slices, bin_aggs, ↓Option.bind_some, ↓Option.map_some, ↓cond_true, ↓cond_false, evC, evOp, XO.lit, setArgs, Tr.get_set, Option.bind_some, Option.map_some, cond_true, cond_false, maxI, maxFrom, minI, minFrom, aConv, aBinE, aEq, eqScal, aUn, evRes, fin, oneOf, if_true, if_false, callee, reduceCtorEq, Nat.reduceEqDiff, and_self, decide_true, decide_false, beq_true, beq_false, Bool.not_true, Bool.not_false, List.getElem?_cons_zero, List.getElem?_cons_succ, beq_self_eq_true, gt_iff_lt, ble_dec, beq_dec, List.head?_cons, AV.undef, eq_self, ne_eq, not_true_eq_false, not_false_eq_true, Int.reduceLT, Int.reduceLE, Int.reduceToNat, Int.reduceEq, Int.reduceNeg, Nat.reduceAdd, Nat.reduceLT, Nat.reduceLeDiff, Nat.reduceMul, Nat.reduceSub, t10]
      exact ⟨_, _, rfl, by rw [this, getOk, decide_eq_true ht], x1⟩
  · rw [decide_eq_false c0] at h14
    have hf : ¬ (cutOk l a n ∧ 1 ≤ n ∧ n ≤ 8) := fun h => c0 h.1
    simp -implicitDefEqProofs -dsimp (maxSteps := 10000000) only [af12, ↓goes_loop, ↓goes_seq, ↓goes_reg, ↓goes_dreg, ↓goes_cond, ↓goes_block, ↓goes_skip, ↓goes_exit, ↓goes_ret, after_some, br_true, br_false, ↓then_normal, ↓then_exit, ↓then_ret, ↓blk_normal, ↓blk_exit, ↓blk_ret, ↓blk_other, ops_nil, ops_some, ops_none, oper_none, oper_some, gd_tt, gd_ff, gd_tf, gd_ft, gd_undef, ↓any_op, ↓any_call, ↓any_callV, ↓any_invoke, xo_t, xo_c, args_nil, args_cons, bin_add, bin_sub, bin_mul, bin_quo, bin_rem, bin_and, bin_or, bin_xor, bin_andNot, bin_eql, bin_neq, bin_lss, bin_leq, bin_gtr, bin_geq, bin_shl, bin_shr, bin_bools, bin_strs, bin_ptrs, bin_slices, bin_aggs, ↓Option.bind_some, ↓Option.map_some, ↓cond_true, ↓cond_false, evC, evOp, XO.lit, setArgs, Tr.tabG, Tr.tabS, Tr.tabL, Tr.get_lf, Option.bind_some, Option.map_some, cond_true, cond_false, maxI, maxFrom, minI, minFrom, aConv, aBinE, aEq, eqScal, aUn, evRes, fin, oneOf, if_true, if_false, callee, reduceCtorEq, Nat.reduceEqDiff, and_self, decide_true, decide_false, beq_true, beq_false, Bool.not_true, Bool.not_false, List.getElem?_cons_zero, List.getElem?_cons_succ, beq_self_eq_true, gt_iff_lt, ble_dec, beq_dec, List.head?_cons, AV.undef, eq_self, ne_eq, not_true_eq_false, not_false_eq_true, Int.reduceLT, Int.reduceLE, Int.reduceToNat, Int.reduceEq, Int.reduceNeg, Nat.reduceAdd, Nat.reduceLT, Nat.reduceLeDiff, Nat.reduceMul, Nat.reduceSub, h14]
    exact ⟨_, _, rfl, by rw [getL, getOk, if_neg hf, decide_eq_false hf]; rfl, x1⟩
structure I15 (p : Option (Nat × Nat × Nat)) (e : Nat) (c : Option Nat) (l : List Nat) (a n : Int) (Sb : St) (m : Nat) (T : Tm) (S : St) : Prop where
  t0 : T.get 0 = some (.slice p l.length e c)
  t1 : T.get 1 = some (.int .i64 a)
  t2 : T.get 2 = some (.int .i64 n)
  st : S = Sb
  more : ∃ j x : Nat, T.get 9 = some (.int .i64 j) ∧ T.get 8 = some (.int .u64 x) ∧ (j : Int) + m = n ∧ x < 256 ^ j ∧ hvF x ((cutL l a n).drop j) = hv (cutL l a n)
set_option maxHeartbeats 1000000 in
theorem round15 {Sb : St} (h : By Sb p e l) {a n : Int} (ha : I64 a) (hk : cutOk l a n) (h8 : n ≤ 8) (hr : l.length ≤ 140737488351500) (m : Nat) (T : Tm) (S : St) (hI : I15 p e c l a n Sb m T S) :
    Goes (evF X0 AP (k + 19)) (k + 19) af15_l0 T S (Then (fun T' S' => ∃ m', I15 p e c l a n Sb m' T' S' ∧ id m' < id m) fun r T' S' => r = .exit 0 ∧ I15 p e c l a n Sb 0 T' S') := by
  obtain ⟨t0, t1, t2, rfl, j, x, t9, t8, hj, hx, hv'⟩ := hI
  have hk' := hk
  unfold cutOk at hk'
  rcases m with _ | m
  · have c0 : ¬ (j : Int) < n := by omega
    simp -implicitDefEqProofs -dsimp (maxSteps := 10000000) only [af15_l0, ↓goes_loop, ↓goes_seq, ↓goes_reg, ↓goes_dreg, ↓goes_cond, ↓goes_block, ↓goes_skip, ↓goes_exit, ↓goes_ret, after_some, br_true, br_false, ↓then_normal, ↓then_exit, ↓then_ret, ↓blk_normal, ↓blk_exit, ↓blk_ret, ↓blk_other, ops_nil, ops_some, ops_none, oper_none, oper_some, gd_tt, gd_ff, gd_tf, gd_ft, gd_undef, ↓any_op, ↓any_call, ↓any_callV, ↓any_invoke, xo_t, xo_c, args_nil, args_cons, bin_add, bin_sub, bin_mul, bin_quo, bin_rem, bin_and, bin_or, bin_xor, bin_andNot, bin_eql, bin_neq, bin_lss, bin_leq, bin_gtr, bin_geq, bin_shl, bin_shr, bin_bools, bin_strs, bin_ptrs, bin_slices, bin_aggs, ↓Option.bind_some, ↓Option.map_some, ↓cond_true, ↓cond_false, evC, evOp, XO.lit, setArgs, Tr.get_set, Option.bind_some, Option.map_some, cond_true, cond_false, maxI, maxFrom, minI, minFrom, aConv, aBinE, aEq, eqScal, aUn, evRes, fin, oneOf, if_true, if_false, callee, reduceCtorEq, Nat.reduceEqDiff, and_self, decide_true, decide_false, beq_true, beq_false, Bool.not_true, Bool.not_false, List.getElem?_cons_zero, List.getElem?_cons_succ, beq_self_eq_true, gt_iff_lt, ble_dec, beq_dec, List.head?_cons, AV.undef, eq_self, ne_eq, not_true_eq_false, not_false_eq_true, Int.reduceLT, Int.reduceLE, Int.reduceToNat, Int.reduceEq, Int.reduceNeg, Nat.reduceAdd, Nat.reduceLT, Nat.reduceLeDiff, Nat.reduceMul, Nat.reduceSub, AV.cells, AV.tup, Bool.true_and, true_and, and_true, List.drop_nil, List.append_nil, rd_put, rd_alloc, rdO, St.get_put, St.get_alloc, St.next_put, St.next_alloc, St.wr, Bool.and_self, Bool.and_true, List.length_cons, List.length_nil, List.take_succ_cons, List.take_zero, List.drop_succ_cons, List.drop_zero, List.cons_append, List.nil_append, Nat.zero_add, Nat.add_zero, Nat.reduceMul, t0, t1, t2, t9, t8, c0]
    refine ⟨?_, ?_, ?_, rfl, j, x, ?_, ?_, hj, hx, hv'⟩ <;> simp only [Tr.get_set, Nat.reduceEqDiff, if_false, if_true, t0, t1, t2, t9, t8]
  · have c0 : (j : Int) < n := by omega
    rcases p with _ | ⟨o, v, i⟩
    · have := h.nil rfl; rw [this] at hk'; simp at hk'; omega
    obtain rfl := h.ez.resolve_left (by simp)
    have hjl : j < (cutL l a n).length := by rw [cutL_len hk]; omega
    have hat : a.toNat + j < l.length := by omega
    have hel : (cutL l a n)[j] = l[a.toNat + j] := by
      simp only [cutL, if_pos hk, List.getElem_take, List.getElem_drop]
    have hb := h.bd l[a.toNat + j] (List.getElem_mem hat)
    obtain ⟨s1, s2, s3, s4⟩ := or_step hx (by omega) hb
    have w0 : IntKind.i64.wrap (a + (j : Int)) = a + (j : Int) := w64_id (by omega) (by omega)
    have hix : ixOf (.int .i64 (a + (j : Int))) l.length = some (a.toNat + j) := by rw [ix_ok (by omega) (by omega)]; congr 1; omega
    have hrd := h.get hat
    have w1 : IntKind.i64.wrap ((j : Int) + 1) = ((j + 1 : Nat) : Int) := w64_id (by omega) (by omega)
    obtain ⟨b, hbb⟩ : ∃ b, l[a.toNat + j] = b := ⟨_, rfl⟩
    rw [hbb] at hb s2 s3 s4 hrd hel
    have cs : ¬ (8 : Int) < 0 := by decide
    simp -implicitDefEqProofs -dsimp (maxSteps := 10000000) only [af15_l0, ↓goes_loop, ↓goes_seq, ↓goes_reg, ↓goes_dreg, ↓goes_cond, ↓goes_block, ↓goes_skip, ↓goes_exit, ↓goes_ret, after_some, br_true, br_false, ↓then_normal, ↓then_exit, ↓then_ret, ↓blk_normal, ↓blk_exit, ↓blk_ret, ↓blk_other, ops_nil, ops_some, ops_none, oper_none, oper_some, gd_tt, gd_ff, gd_tf, gd_ft, gd_undef, ↓any_op, ↓any_call, ↓any_callV, ↓any_invoke, xo_t, xo_c, args_nil, args_cons, bin_add, bin_sub, bin_mul, bin_quo, bin_rem, bin_and, bin_or, bin_xor, bin_andNot, bin_eql, bin_neq, bin_lss, bin_leq, bin_gtr, bin_geq, bin_shl, bin_shr, bin_bools, bin_strs, bin_ptrs, bin_slices, bin_aggs, ↓Option.bind_some, ↓Option.map_some, ↓cond_true, ↓cond_false, evC, evOp, XO.lit, setArgs, Tr.get_set, Option.bind_some, Option.map_some, cond_true, cond_false, maxI, maxFrom, minI, minFrom, aConv, aBinE, aEq, eqScal, aUn, evRes, fin, oneOf, if_true, if_false, callee, reduceCtorEq, Nat.reduceEqDiff, and_self, decide_true, decide_false, beq_true, beq_false, Bool.not_true, Bool.not_false, List.getElem?_cons_zero, List.getElem?_cons_succ, beq_self_eq_true, gt_iff_lt, ble_dec, beq_dec, List.head?_cons, AV.undef, eq_self, ne_eq, not_true_eq_false, not_false_eq_true, Int.reduceLT, Int.reduceLE, Int.reduceToNat, Int.reduceEq, Int.reduceNeg, Nat.reduceAdd, Nat.reduceLT, Nat.reduceLeDiff, Nat.reduceMul, Nat.reduceSub, AV.cells, AV.tup, Bool.true_and, true_and, and_true, List.drop_nil, List.append_nil, rd_put, rd_alloc, rdO, St.get_put, St.get_alloc, St.next_put, St.next_alloc, St.wr, Bool.and_self, Bool.and_true, List.length_cons, List.length_nil, List.take_succ_cons, List.take_zero, List.drop_succ_cons, List.drop_zero, List.cons_append, List.nil_append, Nat.zero_add, Nat.add_zero, Nat.reduceMul, t0, t1, t2, t9, t8, c0, w0, hix, Nat.mul_one, hrd, cs, s1, s2, s3, w1]
    refine ⟨m, ⟨?_, ?_, ?_, rfl, j + 1, x * 256 + b, ?_, ?_, by omega, s4, ?_⟩, Nat.lt_succ_self m⟩
    rotate_right
    · rw [← hv', List.drop_eq_getElem_cons hjl, hvF_cons, hel]
    all_goals simp only [Tr.get_set, Nat.reduceEqDiff, if_false, if_true, t0, t1, t2, t9, t8]
set_option maxHeartbeats 1000000 in
/-- the document's Get -/
theorem T15 (h : By S p e l) (hr : l.length ≤ 140737488351500) {a n : Int} (ha : I64 a) (hn : I64 n) :
    evF X0 AP (k + 20) 15 [.slice p l.length e c, .int .i64 a, .int .i64 n] S = some (.tuple [.int .u64 (getL l a n), .bool (getOk l a n)], S) := by
  suffices hh : ∃ v S', evF X0 AP (k + 20) 15 [.slice p l.length e c, .int .i64 a, .int .i64 n] S = some (v, S') ∧ (v = .tuple [.int .u64 (getL l a n), .bool (getOk l a n)] ∧ S' = S) by
    obtain ⟨v, S', h1, rfl, rfl⟩ := hh; exact h1
  have hm : l.length ≤ 9223372036854775807 := by omega
  refine evF_goes (af := af15) (k := k + 19) rfl rfl rfl ?_
  have no : ¬ (cutOk l a n ∧ 1 ≤ n ∧ n ≤ 8) → AV.tuple [.int .u64 0, .bool false] = .tuple [.int .u64 (getL l a n), .bool (getOk l a n)] := fun hf => by
    rw [getL, getOk, if_neg hf, decide_eq_false hf]; rfl
  by_cases c1 : n < 1
  · simp -implicitDefEqProofs -dsimp (maxSteps := 10000000) only [af15, ↓goes_loop, ↓goes_seq, ↓goes_reg, ↓goes_dreg, ↓goes_cond, ↓goes_block, ↓goes_skip, ↓goes_exit, ↓goes_ret, after_some, br_true, br_false, ↓then_normal, ↓then_exit, ↓then_ret, ↓blk_normal, ↓blk_exit, ↓blk_ret, ↓blk_other, ops_nil, ops_some, ops_none, oper_none, oper_some, gd_tt, gd_ff, gd_tf, gd_ft, gd_undef, ↓any_op, ↓any_call, ↓any_callV, ↓any_invoke, xo_t, xo_c, args_nil, args_cons, bin_add, bin_sub, bin_mul, bin_quo, bin_rem, bin_and, bin_or, bin_xor, bin_andNot, bin_eql, bin_neq, bin_lss, bin_leq, bin_gtr, bin_geq, bin_shl, bin_shr, bin_bools, bin_strs, bin_ptrs, bin_slices, bin_aggs, ↓Option.bind_some, ↓Option.map_some, ↓cond_true, ↓cond_false, evC, evOp, XO.lit, setArgs, Tr.tabG, Tr.tabS, Tr.tabL, Tr.get_lf, Option.bind_some, Option.map_some, cond_true, cond_false, maxI, maxFrom, minI, minFrom, aConv, aBinE, aEq, eqScal, aUn, evRes, fin, oneOf, if_true, if_false, callee, reduceCtorEq, Nat.reduceEqDiff, and_self, decide_true, decide_false, beq_true, beq_false, Bool.not_true, Bool.not_false, List.getElem?_cons_zero, List.getElem?_cons_succ, beq_self_eq_true, gt_iff_lt, ble_dec, beq_dec, List.head?_cons, AV.undef, eq_self, ne_eq, not_true_eq_false, not_false_eq_true, Int.reduceLT, Int.reduceLE, Int.reduceToNat, Int.reduceEq, Int.reduceNeg, Nat.reduceAdd, Nat.reduceLT, Nat.reduceLeDiff, Nat.reduceMul, Nat.reduceSub, c1]
    exact ⟨_, _, rfl, no (by omega), rfl⟩
  by_cases c2 : 8 < n
  · simp -implicitDefEqProofs -dsimp (maxSteps := 10000000) only [af15, ↓goes_loop, ↓goes_seq, ↓goes_reg, ↓goes_dreg, ↓goes_cond, ↓goes_block, ↓goes_skip, ↓goes_exit, ↓goes_ret, after_some, br_true, br_false, ↓then_normal, ↓then_exit, ↓then_ret, ↓blk_normal, ↓blk_exit, ↓blk_ret, ↓blk_other, ops_nil, ops_some, ops_none, oper_none, oper_some, gd_tt, gd_ff, gd_tf, gd_ft, gd_undef, ↓any_op, ↓any_call, ↓any_callV, ↓any_invoke, xo_t, xo_c, args_nil, args_cons, bin_add, bin_sub, bin_mul, bin_quo, bin_rem, bin_and, bin_or, bin_xor, bin_andNot, bin_eql, bin_neq, bin_lss, bin_leq, bin_gtr, bin_geq, bin_shl, bin_shr, bin_bools, bin_strs, bin_ptrs, bin_slices, bin_aggs, ↓Option.bind_some, ↓Option.map_some, ↓cond_true, ↓cond_false, evC, evOp, XO.lit, setArgs, Tr.tabG, Tr.tabS, Tr.tabL, Tr.get_lf, Option.bind_some, Option.map_some, cond_true, cond_false, maxI, maxFrom, minI, minFrom, aConv, aBinE, aEq, eqScal, aUn, evRes, fin, oneOf, if_true, if_false, callee, reduceCtorEq, Nat.reduceEqDiff, and_self, decide_true, decide_false, beq_true, beq_false, Bool.not_true, Bool.not_false, List.getElem?_cons_zero, List.getElem?_cons_succ, beq_self_eq_true, gt_iff_lt, ble_dec, beq_dec, List.head?_cons, AV.undef, eq_self, ne_eq, not_true_eq_false, not_false_eq_true, Int.reduceLT, Int.reduceLE, Int.reduceToNat, Int.reduceEq, Int.reduceNeg, Nat.reduceAdd, Nat.reduceLT, Nat.reduceLeDiff, Nat.reduceMul, Nat.reduceSub, c1, c2]
    exact ⟨_, _, rfl, no (by omega), rfl⟩
  by_cases c3 : a < 0
  · simp -implicitDefEqProofs -dsimp (maxSteps := 10000000) only [af15, ↓goes_loop, ↓goes_seq, ↓goes_reg, ↓goes_dreg, ↓goes_cond, ↓goes_block, ↓goes_skip, ↓goes_exit, ↓goes_ret, after_some, br_true, br_false, ↓then_normal, ↓then_exit, ↓then_ret, ↓blk_normal, ↓blk_exit, ↓blk_ret, ↓blk_other, ops_nil, ops_some, ops_none, oper_none, oper_some, gd_tt, gd_ff, gd_tf, gd_ft, gd_undef, ↓any_op, ↓any_call, ↓any_callV, ↓any_invoke, xo_t, xo_c, args_nil, args_cons, bin_add, bin_sub, bin_mul, bin_quo, bin_rem, bin_and, bin_or, bin_xor, bin_andNot, bin_eql, bin_neq, bin_lss, bin_leq, bin_gtr, bin_geq, bin_shl, bin_shr, bin_bools, bin_strs, bin_ptrs, bin_slices, bin_aggs, ↓Option.bind_some, ↓Option.map_some, ↓cond_true, ↓cond_false, evC, evOp, XO.lit, setArgs, Tr.tabG, Tr.tabS, Tr.tabL, Tr.get_lf, Option.bind_some, Option.map_some, cond_true, cond_false, maxI, maxFrom, minI, minFrom, aConv, aBinE, aEq, eqScal, aUn, evRes, fin, oneOf, if_true, if_false, callee, reduceCtorEq, Nat.reduceEqDiff, and_self, decide_true, decide_false, beq_true, beq_false, Bool.not_true, Bool.not_false, List.getElem?_cons_zero, List.getElem?_cons_succ, beq_self_eq_true, gt_iff_lt, ble_dec, beq_dec, List.head?_cons, AV.undef, eq_self, ne_eq, not_true_eq_false, not_false_eq_true, Int.reduceLT, Int.reduceLE, Int.reduceToNat, Int.reduceEq, Int.reduceNeg, Nat.reduceAdd, Nat.reduceLT, Nat.reduceLeDiff, Nat.reduceMul, Nat.reduceSub, c1, c2, c3]
    exact ⟨_, _, rfl, no (by unfold cutOk; omega), rfl⟩
  by_cases c4 : (l.length : Int) < a
  · simp -implicitDefEqProofs -dsimp (maxSteps := 10000000) only [af15, ↓goes_loop, ↓goes_seq, ↓goes_reg, ↓goes_dreg, ↓goes_cond, ↓goes_block, ↓goes_skip, ↓goes_exit, ↓goes_ret, after_some, br_true, br_false, ↓then_normal, ↓then_exit, ↓then_ret, ↓blk_normal, ↓blk_exit, ↓blk_ret, ↓blk_other, ops_nil, ops_some, ops_none, oper_none, oper_some, gd_tt, gd_ff, gd_tf, gd_ft, gd_undef, ↓any_op, ↓any_call, ↓any_callV, ↓any_invoke, xo_t, xo_c, args_nil, args_cons, bin_add, bin_sub, bin_mul, bin_quo, bin_rem, bin_and, bin_or, bin_xor, bin_andNot, bin_eql, bin_neq, bin_lss, bin_leq, bin_gtr, bin_geq, bin_shl, bin_shr, bin_bools, bin_strs, bin_ptrs, bin_slices, bin_aggs, ↓Option.bind_some, ↓Option.map_some, ↓cond_true, ↓cond_false, evC, evOp, XO.lit, setArgs, Tr.tabG, Tr.tabS, Tr.tabL, Tr.get_lf, Option.bind_some, Option.map_some, cond_true, cond_false, maxI, maxFrom, minI, minFrom, aConv, aBinE, aEq, eqScal, aUn, evRes, fin, oneOf, if_true, if_false, callee, reduceCtorEq, Nat.reduceEqDiff, and_self, decide_true, decide_false, beq_true, beq_false, Bool.not_true, Bool.not_false, List.getElem?_cons_zero, List.getElem?_cons_succ, beq_self_eq_true, gt_iff_lt, ble_dec, beq_dec, List.head?_cons, AV.undef, eq_self, ne_eq, not_true_eq_false, not_false_eq_true, Int.reduceLT, Int.reduceLE, Int.reduceToNat, Int.reduceEq, Int.reduceNeg, Nat.reduceAdd, Nat.reduceLT, Nat.reduceLeDiff, Nat.reduceMul, Nat.reduceSub, c1, c2, c3, c4, hm]
    exact ⟨_, _, rfl, no (by unfold cutOk; omega), rfl⟩
  have w1 : IntKind.i64.wrap ((l.length : Int) - a) = (l.length : Int) - a := w64_id (by omega) (by omega)
  by_cases c5 : (l.length : Int) - a < n
  · simp -implicitDefEqProofs -dsimp (maxSteps := 10000000) only [af15, ↓goes_loop, ↓goes_seq, ↓goes_reg, ↓goes_dreg, ↓goes_cond, ↓goes_block, ↓goes_skip, ↓goes_exit, ↓goes_ret, after_some, br_true, br_false, ↓then_normal, ↓then_exit, ↓then_ret, ↓blk_normal, ↓blk_exit, ↓blk_ret, ↓blk_other, ops_nil, ops_some, ops_none, oper_none, oper_some, gd_tt, gd_ff, gd_tf, gd_ft, gd_undef, ↓any_op, ↓any_call, ↓any_callV, ↓any_invoke, xo_t, xo_c, args_nil, args_cons, bin_add, bin_sub, bin_mul, bin_quo, bin_rem, bin_and, bin_or, bin_xor, bin_andNot, bin_eql, bin_neq, bin_lss, bin_leq, bin_gtr, bin_geq, bin_shl, bin_shr, bin_bools, bin_strs, bin_ptrs, bin_slices, bin_aggs, ↓Option.bind_some, ↓Option.map_some, ↓cond_true, ↓cond_false, evC, evOp, XO.lit, setArgs, Tr.tabG, Tr.tabS, Tr.tabL, Tr.get_lf, Option.bind_some, Option.map_some, cond_true, cond_false, maxI, maxFrom, minI, minFrom, aConv, aBinE, aEq, eqScal, aUn, evRes, fin, oneOf, if_true, if_false, callee, reduceCtorEq, Nat.reduceEqDiff, and_self, decide_true, decide_false, beq_true, beq_false, Bool.not_true, Bool.not_false, List.getElem?_cons_zero, List.getElem?_cons_succ, beq_self_eq_true, gt_iff_lt, ble_dec, beq_dec, List.head?_cons, AV.undef, eq_self, ne_eq, not_true_eq_false, not_false_eq_true, Int.reduceLT, Int.reduceLE, Int.reduceToNat, Int.reduceEq, Int.reduceNeg, Nat.reduceAdd, Nat.reduceLT, Nat.reduceLeDiff, Nat.reduceMul, Nat.reduceSub, c1, c2, c3, c4, c5, hm, w1]
    exact ⟨_, _, rfl, no (by unfold cutOk; omega), rfl⟩
  have hk : cutOk l a n := by unfold cutOk; omega
  have ht : cutOk l a n ∧ 1 ≤ n ∧ n ≤ 8 := ⟨hk, by omega, by omega⟩
  simp -implicitDefEqProofs -dsimp (maxSteps := 10000000) only [af15, ↓goes_loop, ↓goes_seq, ↓goes_reg, ↓goes_dreg, ↓goes_cond, ↓goes_block, ↓goes_skip, ↓goes_exit, ↓goes_ret, after_some, br_true, br_false, ↓then_normal, ↓then_exit, ↓then_ret, ↓blk_normal, ↓blk_exit, ↓blk_ret, ↓blk_other, ops_nil, ops_some, ops_none, oper_none, oper_some, gd_tt, gd_ff, gd_tf, gd_ft, gd_undef, ↓any_op, ↓any_call, ↓any_callV, ↓any_invoke, xo_t, xo_c, args_nil, args_cons, bin_add, bin_sub, bin_mul, bin_quo, bin_rem, bin_and, bin_or, bin_xor, bin_andNot, bin_eql, bin_neq, bin_lss, bin_leq, bin_gtr, bin_geq, bin_shl, bin_shr, bin_bools, bin_strs, bin_ptrs, bin_slices, bin_aggs, ↓Option.bind_some, ↓Option.map_some, ↓cond_true, ↓cond_false, evC, evOp, XO.lit, setArgs, Tr.tabG, Tr.tabS, Tr.tabL, Tr.get_lf, Option.bind_some, Option.map_some, cond_true, cond_false, maxI, maxFrom, minI, minFrom, aConv, aBinE, aEq, eqScal, aUn, evRes, fin, oneOf, if_true, if_false, callee, reduceCtorEq, Nat.reduceEqDiff, and_self, decide_true, decide_false, beq_true, beq_false, Bool.not_true, Bool.not_false, List.getElem?_cons_zero, List.getElem?_cons_succ, beq_self_eq_true, gt_iff_lt, ble_dec, beq_dec, List.head?_cons, AV.undef, eq_self, ne_eq, not_true_eq_false, not_false_eq_true, Int.reduceLT, Int.reduceLE, Int.reduceToNat, Int.reduceEq, Int.reduceNeg, Nat.reduceAdd, Nat.reduceLT, Nat.reduceLeDiff, Nat.reduceMul, Nat.reduceSub, c1, c2, c3, c4, c5, hm, w1]
  refine .while (I15 p e c l a n S) id n.toNat ⟨rfl, rfl, rfl, rfl, 0, 0, rfl, rfl, by omega, by decide, rfl⟩ (by show n.toNat < k + 19; omega) fun m T2 S2 h2 => (round15 k h ha hk (by omega) hr m T2 S2 h2).mono ?_
  intro r T' S' hq
  cases r with
  | normal => exact hq
  | ret => exact absurd hq.1 (by simp)
  | exit i =>
    obtain ⟨hi, t0, t1, t2, rfl, j, x, t9, t8, hj, hx, hxv⟩ := hq
    cases hi
    have : x = getL l a n := by
      rw [getL, if_pos ht, ← hxv, List.drop_of_length_le (by rw [cutL_len hk]; omega)]; rfl
    simp -implicitDefEqProofs -dsimp (maxSteps := 10000000) only [↓goes_loop, ↓goes_seq, ↓goes_reg, ↓goes_dreg, ↓goes_cond, ↓goes_block, ↓goes_skip, ↓goes_exit, ↓goes_ret, after_some, br_true, br_false, ↓then_normal, ↓then_exit, ↓then_ret, ↓blk_normal, ↓blk_exit, ↓blk_ret, ↓blk_other, ops_nil, ops_some, ops_none, oper_none, oper_some, gd_tt, gd_ff, gd_tf, gd_ft, gd_undef, ↓any_op, ↓any_call, ↓any_callV, ↓any_invoke, xo_t, xo_c, args_nil, args_cons, bin_add, bin_sub, bin_mul, bin_quo, bin_rem, bin_and, bin_or, bin_xor, bin_andNot, bin_eql, bin_neq, bin_lss, bin_leq, bin_gtr, bin_geq, bin_shl, bin_shr, bin_bools, bin_strs, bin_ptrs, bin_slices, bin_aggs, ↓Option.bind_some, ↓Option.map_some, ↓cond_true, ↓cond_false, evC, evOp, XO.lit, setArgs, Tr.get_set, Option.bind_some, Option.map_some, cond_true, cond_false, maxI, maxFrom, minI, minFrom, aConv, aBinE, aEq, eqScal, aUn, evRes, fin, oneOf, if_true, if_false, callee, reduceCtorEq, Nat.reduceEqDiff, and_self, decide_true, decide_false, beq_true, beq_false, Bool.not_true, Bool.not_false, List.getElem?_cons_zero, List.getElem?_cons_succ, beq_self_eq_true, gt_iff_lt, ble_dec, beq_dec, List.head?_cons, AV.undef, eq_self, ne_eq, not_true_eq_false, not_false_eq_true, Int.reduceLT, Int.reduceLE, Int.reduceToNat, Int.reduceEq, Int.reduceNeg, Nat.reduceAdd, Nat.reduceLT, Nat.reduceLeDiff, Nat.reduceMul, Nat.reduceSub, t8]
    exact ⟨_, _, rfl, by rw [this, getOk, decide_eq_true ht], rfl⟩
/-- The document's Put. -/
structure I17 (Sb : St) (l : List Nat) (n : Int) (z m : Nat) (T : Tm) (S : St) : Prop where
  t1 : T.get 1 = some (.int .u64 n)
  t8 : T.get 8 = some (.int .i64 ((m : Int) - 1))
  mz : m ≤ z
  more : ∃ p e c, T.get 7 = some (.slice p c.length e none) ∧ Gr Sb S p e c ∧ c ++ be n m = l ++ be n z
set_option maxHeartbeats 1000000 in
theorem round17 {Sb : St} {n : Int} {z : Nat} (hz : z ≤ 8) (hr : l.length + 8 ≤ 140737488355328) (m : Nat) (T : Tm) (S : St) (h : I17 Sb l n z m T S) :
    Goes (evF X0 AP (k + 19)) (k + 19) af17_l0 T S (Then (fun T' S' => ∃ m', I17 Sb l n z m' T' S' ∧ id m' < id m) fun r T' S' => r = .exit 0 ∧ I17 Sb l n z 0 T' S') := by
  obtain ⟨t1, t8, mz, p, e, c, t7, hg, hc⟩ := h
  rcases m with _ | j
  · have c0 : ¬ (0 : Int) ≤ ((0 : Nat) : Int) - 1 := by omega
    simp -implicitDefEqProofs -dsimp (maxSteps := 10000000) only [af17_l0, ↓goes_loop, ↓goes_seq, ↓goes_reg, ↓goes_dreg, ↓goes_cond, ↓goes_block, ↓goes_skip, ↓goes_exit, ↓goes_ret, after_some, br_true, br_false, ↓then_normal, ↓then_exit, ↓then_ret, ↓blk_normal, ↓blk_exit, ↓blk_ret, ↓blk_other, ops_nil, ops_some, ops_none, oper_none, oper_some, gd_tt, gd_ff, gd_tf, gd_ft, gd_undef, ↓any_op, ↓any_call, ↓any_callV, ↓any_invoke, xo_t, xo_c, args_nil, args_cons, bin_add, bin_sub, bin_mul, bin_quo, bin_rem, bin_and, bin_or, bin_xor, bin_andNot, bin_eql, bin_neq, bin_lss, bin_leq, bin_gtr, bin_geq, bin_shl, bin_shr, bin_bools, bin_strs, bin_ptrs, bin_slices, bin_aggs, ↓Option.bind_some, ↓Option.map_some, ↓cond_true, ↓cond_false, evC, evOp, XO.lit, setArgs, Tr.get_set, Option.bind_some, Option.map_some, cond_true, cond_false, maxI, maxFrom, minI, minFrom, aConv, aBinE, aEq, eqScal, aUn, evRes, fin, oneOf, if_true, if_false, callee, reduceCtorEq, Nat.reduceEqDiff, and_self, decide_true, decide_false, beq_true, beq_false, Bool.not_true, Bool.not_false, List.getElem?_cons_zero, List.getElem?_cons_succ, beq_self_eq_true, gt_iff_lt, ble_dec, beq_dec, List.head?_cons, AV.undef, eq_self, ne_eq, not_true_eq_false, not_false_eq_true, Int.reduceLT, Int.reduceLE, Int.reduceToNat, Int.reduceEq, Int.reduceNeg, Nat.reduceAdd, Nat.reduceLT, Nat.reduceLeDiff, Nat.reduceMul, Nat.reduceSub, AV.cells, AV.tup, Bool.true_and, true_and, and_true, List.drop_nil, List.append_nil, rd_put, rd_alloc, rdO, St.get_put, St.get_alloc, St.next_put, St.next_alloc, St.wr, Bool.and_self, Bool.and_true, List.length_cons, List.length_nil, List.take_succ_cons, List.take_zero, List.drop_succ_cons, List.drop_zero, List.cons_append, List.nil_append, Nat.zero_add, Nat.add_zero, Nat.reduceMul, t1, t7, t8, c0]
    refine ⟨?_, ?_, by omega, p, e, c, ?_, hg, hc⟩ <;> simp only [Tr.get_set, Nat.reduceEqDiff, if_false, if_true, t1, t7, t8]
  · have e8 : (((j + 1 : Nat) : Int)) - 1 = (j : Int) := by omega
    rw [e8] at t8
    have hlen : c.length + (j + 1) = l.length + z := by
      have := congrArg List.length hc
      simpa [be_len] using this
    have c0 : (0 : Int) ≤ (j : Int) := by omega
    have c1 : ¬ (8 * (j : Int)) < 0 := by omega
    have w1 : IntKind.i64.wrap (8 * (j : Int)) = 8 * (j : Int) := w64_id (by omega) (by omega)
    have w3 : IntKind.u64.wrap (8 * (j : Int)) = 8 * (j : Int) := u64_id (by omega) (by omega)
    have w2 : IntKind.i64.wrap ((j : Int) - 1) = (j : Int) - 1 := w64_id (by omega) (by omega)
    have hs : min (8 * (j : Int)).toNat IntKind.u64.bits = 8 * j := by
      show min (8 * (j : Int)).toNat 64 = 8 * j
      omega
    obtain ⟨hw, hb⟩ := u8_nat n j
    obtain ⟨b, hbb⟩ : ∃ b, (n / 2 ^ (8 * j) % 256).toNat = b := ⟨_, rfl⟩
    rw [hbb] at hw hb
    obtain ⟨p', e', S', h1, h2⟩ := (hg.more (.alloc S (.cells [.int .u8 (b : Int)] 0 0 true))).app1 hb (by omega)
    simp -implicitDefEqProofs -dsimp (maxSteps := 10000000) only [af17_l0, ↓goes_loop, ↓goes_seq, ↓goes_reg, ↓goes_dreg, ↓goes_cond, ↓goes_block, ↓goes_skip, ↓goes_exit, ↓goes_ret, after_some, br_true, br_false, ↓then_normal, ↓then_exit, ↓then_ret, ↓blk_normal, ↓blk_exit, ↓blk_ret, ↓blk_other, ops_nil, ops_some, ops_none, oper_none, oper_some, gd_tt, gd_ff, gd_tf, gd_ft, gd_undef, ↓any_op, ↓any_call, ↓any_callV, ↓any_invoke, xo_t, xo_c, args_nil, args_cons, bin_add, bin_sub, bin_mul, bin_quo, bin_rem, bin_and, bin_or, bin_xor, bin_andNot, bin_eql, bin_neq, bin_lss, bin_leq, bin_gtr, bin_geq, bin_shl, bin_shr, bin_bools, bin_strs, bin_ptrs, bin_slices, bin_aggs, ↓Option.bind_some, ↓Option.map_some, ↓cond_true, ↓cond_false, evC, evOp, XO.lit, setArgs, Tr.get_set, Option.bind_some, Option.map_some, cond_true, cond_false, maxI, maxFrom, minI, minFrom, aConv, aBinE, aEq, eqScal, aUn, evRes, fin, oneOf, if_true, if_false, callee, reduceCtorEq, Nat.reduceEqDiff, and_self, decide_true, decide_false, beq_true, beq_false, Bool.not_true, Bool.not_false, List.getElem?_cons_zero, List.getElem?_cons_succ, beq_self_eq_true, gt_iff_lt, ble_dec, beq_dec, List.head?_cons, AV.undef, eq_self, ne_eq, not_true_eq_false, not_false_eq_true, Int.reduceLT, Int.reduceLE, Int.reduceToNat, Int.reduceEq, Int.reduceNeg, Nat.reduceAdd, Nat.reduceLT, Nat.reduceLeDiff, Nat.reduceMul, Nat.reduceSub, AV.cells, AV.tup, Bool.true_and, true_and, and_true, List.drop_nil, List.append_nil, rd_put, rd_alloc, rdO, St.get_put, St.get_alloc, St.next_put, St.next_alloc, St.wr, Bool.and_self, Bool.and_true, List.length_cons, List.length_nil, List.take_succ_cons, List.take_zero, List.drop_succ_cons, List.drop_zero, List.cons_append, List.nil_append, Nat.zero_add, Nat.add_zero, Nat.reduceMul, aFill, evParts, rep, List.replicate_succ, List.replicate_zero, List.flatten_cons, List.flatten_nil, List.append_nil, newSl, newVar, t1, t7, t8, c0, c1, w1, w3, hs, hw, h1, w2]
    refine ⟨j, ⟨?_, ?_, by omega, p', e', c ++ [b], ?_, h2, ?_⟩, Nat.lt_succ_self j⟩
    rotate_right
    · rw [← hc, be, hbb, List.append_assoc]; rfl
    all_goals simp only [Tr.get_set, Nat.reduceEqDiff, if_false, if_true, t1, t7, t8, List.length_append, List.length_singleton]
/-- A fresh row of what another one holds. -/
theorem fresh_app (h : By S p e l) (hr : l.length ≤ 140737488355328) (c : Option Nat) :
    ∃ p' e' S', evOp (.append 1 1 (.c (.slice (some (S.next, 0, 0)) 0 1 none)) (.c (.slice p l.length e c))) .lf (S.alloc (.cells [] 0 0 true)) = some (.slice p' l.length e' none, S') ∧ Gr S S' p' e' l := by
  obtain ⟨p', e', S', h3, g⟩ := (Gr.empty S).app h.bd (by simpa using hr)
  rw [List.nil_append] at h3 g
  simp only [List.length_nil] at h3
  refine ⟨p', e', S', ?_, g⟩
  rcases p with _ | ⟨o, v, i⟩
  · obtain rfl := h.nil rfl
    exact h3
  · obtain rfl := h.ez.resolve_left (by simp)
    obtain ⟨h4, h5⟩ := h.at_ o v i rfl
    have h6 : (S.alloc (.cells [] 0 0 true)).rd o v i l.length = some (bv l) := by
      rw [rd_alloc, if_neg (by omega)]; exact h5
    simp only [evOp, XO.ev, Option.bind_some, if_true, Nat.mul_one, h6, h3]
theorem wh17 {P : Tm → St → Prop} {Sb : St} {n : Int} {z : Nat} (hz : z ≤ 8) (hr : l.length + 8 ≤ 140737488355328) {T : Tm} {S : St} (h : I17 Sb l n z z T S) {Q : Ex → Tm → St → Prop}
    (hQ : ∀ T' S', I17 Sb l n z 0 T' S' → Q (.exit 0) T' S') : Goes (evF X0 AP (k + 19)) (k + 19) (.loop af17_l0) T S Q := by
  refine .while (I17 Sb l n z) id z h (by show z < k + 19; omega) fun m T2 S2 h2 => (round17 k hz hr m T2 S2 h2).mono ?_
  intro r T' S' hq
  cases r with
  | normal => exact hq
  | ret => exact absurd hq.1 (by simp)
  | exit i => obtain ⟨hi, hq⟩ := hq; cases hi; exact hQ _ _ hq
set_option maxHeartbeats 2000000 in
theorem T17 (h : By S p e l) (hr : l.length ≤ 140737488351500) {n size : Int} (hs : I64 size) :
    ∃ v' S', evF X0 AP (k + 20) 17 [.slice p l.length e c, .int .u64 n, .int .i64 size] S = some (v', S') ∧ Bs S' v' (putL l n size) ∧ Ext S S' := by
  obtain ⟨p1, e1, S1, h3, g1⟩ := fresh_app h (by omega) c
  refine evF_goes (af := af17) (k := k + 19) rfl rfl rfl ?_
  have b1 := g1.by_ (by omega)
  rcases p with _ | ⟨o, v, i⟩
  all_goals
    simp only [evOp, XO.ev, Option.bind_some] at h3
    by_cases c1 : size < 1
    · simp -implicitDefEqProofs -dsimp (maxSteps := 10000000) only [af17, ↓goes_loop, ↓goes_seq, ↓goes_reg, ↓goes_dreg, ↓goes_cond, ↓goes_block, ↓goes_skip, ↓goes_exit, ↓goes_ret, after_some, br_true, br_false, ↓then_normal, ↓then_exit, ↓then_ret, ↓blk_normal, ↓blk_exit, ↓blk_ret, ↓blk_other, ops_nil, ops_some, ops_none, oper_none, oper_some, gd_tt, gd_ff, gd_tf, gd_ft, gd_undef, ↓any_op, ↓any_call, ↓any_callV, ↓any_invoke, xo_t, xo_c, args_nil, args_cons, bin_add, bin_sub, bin_mul, bin_quo, bin_rem, bin_and, bin_or, bin_xor, bin_andNot, bin_eql, bin_neq, bin_lss, bin_leq, bin_gtr, bin_geq, bin_shl, bin_shr, bin_bools, bin_strs, bin_ptrs, bin_slices, bin_aggs, ↓Option.bind_some, ↓Option.map_some, ↓cond_true, ↓cond_false, evC, evOp, XO.lit, setArgs, Tr.tabG, Tr.tabS, Tr.tabL, Tr.get_lf, Option.bind_some, Option.map_some, cond_true, cond_false, maxI, maxFrom, minI, minFrom, aConv, aBinE, aEq, eqScal, aUn, evRes, fin, oneOf, if_true, if_false, callee, reduceCtorEq, Nat.reduceEqDiff, and_self, decide_true, decide_false, beq_true, beq_false, Bool.not_true, Bool.not_false, List.getElem?_cons_zero, List.getElem?_cons_succ, beq_self_eq_true, gt_iff_lt, ble_dec, beq_dec, List.head?_cons, AV.undef, eq_self, ne_eq, not_true_eq_false, not_false_eq_true, Int.reduceLT, Int.reduceLE, Int.reduceToNat, Int.reduceEq, Int.reduceNeg, Nat.reduceAdd, Nat.reduceLT, Nat.reduceLeDiff, Nat.reduceMul, Nat.reduceSub, aFill, evParts, rep, List.replicate_succ, List.replicate_zero, List.flatten_cons, List.flatten_nil, List.append_nil, newSl, newVar, h3, c1]
      exact ⟨_, _, rfl, ⟨p1, e1, none, by simp only [putL, c1, true_or, if_true], by simpa only [putL, c1, true_or, if_true] using b1⟩, g1.ext⟩
    by_cases c2 : 8 < size
    · simp -implicitDefEqProofs -dsimp (maxSteps := 10000000) only [af17, ↓goes_loop, ↓goes_seq, ↓goes_reg, ↓goes_dreg, ↓goes_cond, ↓goes_block, ↓goes_skip, ↓goes_exit, ↓goes_ret, after_some, br_true, br_false, ↓then_normal, ↓then_exit, ↓then_ret, ↓blk_normal, ↓blk_exit, ↓blk_ret, ↓blk_other, ops_nil, ops_some, ops_none, oper_none, oper_some, gd_tt, gd_ff, gd_tf, gd_ft, gd_undef, ↓any_op, ↓any_call, ↓any_callV, ↓any_invoke, xo_t, xo_c, args_nil, args_cons, bin_add, bin_sub, bin_mul, bin_quo, bin_rem, bin_and, bin_or, bin_xor, bin_andNot, bin_eql, bin_neq, bin_lss, bin_leq, bin_gtr, bin_geq, bin_shl, bin_shr, bin_bools, bin_strs, bin_ptrs, bin_slices, bin_aggs, ↓Option.bind_some, ↓Option.map_some, ↓cond_true, ↓cond_false, evC, evOp, XO.lit, setArgs, Tr.tabG, Tr.tabS, Tr.tabL, Tr.get_lf, Option.bind_some, Option.map_some, cond_true, cond_false, maxI, maxFrom, minI, minFrom, aConv, aBinE, aEq, eqScal, aUn, evRes, fin, oneOf, if_true, if_false, callee, reduceCtorEq, Nat.reduceEqDiff, and_self, decide_true, decide_false, beq_true, beq_false, Bool.not_true, Bool.not_false, List.getElem?_cons_zero, List.getElem?_cons_succ, beq_self_eq_true, gt_iff_lt, ble_dec, beq_dec, List.head?_cons, AV.undef, eq_self, ne_eq, not_true_eq_false, not_false_eq_true, Int.reduceLT, Int.reduceLE, Int.reduceToNat, Int.reduceEq, Int.reduceNeg, Nat.reduceAdd, Nat.reduceLT, Nat.reduceLeDiff, Nat.reduceMul, Nat.reduceSub, aFill, evParts, rep, List.replicate_succ, List.replicate_zero, List.flatten_cons, List.flatten_nil, List.append_nil, newSl, newVar, h3, c1, c2]
      exact ⟨_, _, rfl, ⟨p1, e1, none, by simp only [putL, c2, or_true, if_true], by simpa only [putL, c2, or_true, if_true] using b1⟩, g1.ext⟩
    have w1 : IntKind.i64.wrap (size - 1) = size - 1 := w64_id (by omega) (by omega)
    simp -implicitDefEqProofs -dsimp (maxSteps := 10000000) only [af17, ↓goes_loop, ↓goes_seq, ↓goes_reg, ↓goes_dreg, ↓goes_cond, ↓goes_block, ↓goes_skip, ↓goes_exit, ↓goes_ret, after_some, br_true, br_false, ↓then_normal, ↓then_exit, ↓then_ret, ↓blk_normal, ↓blk_exit, ↓blk_ret, ↓blk_other, ops_nil, ops_some, ops_none, oper_none, oper_some, gd_tt, gd_ff, gd_tf, gd_ft, gd_undef, ↓any_op, ↓any_call, ↓any_callV, ↓any_invoke, xo_t, xo_c, args_nil, args_cons, bin_add, bin_sub, bin_mul, bin_quo, bin_rem, bin_and, bin_or, bin_xor, bin_andNot, bin_eql, bin_neq, bin_lss, bin_leq, bin_gtr, bin_geq, bin_shl, bin_shr, bin_bools, bin_strs, bin_ptrs, bin_slices, bin_aggs, ↓Option.bind_some, ↓Option.map_some, ↓cond_true, ↓cond_false, evC, evOp, XO.lit, setArgs, Tr.tabG, Tr.tabS, Tr.tabL, Tr.get_lf, Option.bind_some, Option.map_some, cond_true, cond_false, maxI, maxFrom, minI, minFrom, aConv, aBinE, aEq, eqScal, aUn, evRes, fin, oneOf, if_true, if_false, callee, reduceCtorEq, Nat.reduceEqDiff, and_self, decide_true, decide_false, beq_true, beq_false, Bool.not_true, Bool.not_false, List.getElem?_cons_zero, List.getElem?_cons_succ, beq_self_eq_true, gt_iff_lt, ble_dec, beq_dec, List.head?_cons, AV.undef, eq_self, ne_eq, not_true_eq_false, not_false_eq_true, Int.reduceLT, Int.reduceLE, Int.reduceToNat, Int.reduceEq, Int.reduceNeg, Nat.reduceAdd, Nat.reduceLT, Nat.reduceLeDiff, Nat.reduceMul, Nat.reduceSub, aFill, evParts, rep, List.replicate_succ, List.replicate_zero, List.flatten_cons, List.flatten_nil, List.append_nil, newSl, newVar, h3, c1, c2, w1]
    refine wh17 (P := fun _ _ => True) (l := l) (n := n) (z := size.toNat) k (Sb := S) (by omega) (by omega) ⟨rfl, ?_, Nat.le_refl _, p1, e1, l, rfl, g1, rfl⟩ ?_
    · have : ((size.toNat : Nat) : Int) - 1 = size - 1 := by omega
      rw [this]; rfl
    · rintro T' S' ⟨t1, t8, mz, p3, e3, c3, t7, g3, hc3⟩
      have hc3 : c3 = putL l n size := by
        simp only [be, List.append_nil] at hc3
        rw [hc3, putL, if_neg (by omega)]
      have hl3 : c3.length ≤ 140737488355328 := by
        rw [hc3, putL, if_neg (by omega), List.length_append, be_len]; omega
      simp -implicitDefEqProofs -dsimp (maxSteps := 10000000) only [↓goes_loop, ↓goes_seq, ↓goes_reg, ↓goes_dreg, ↓goes_cond, ↓goes_block, ↓goes_skip, ↓goes_exit, ↓goes_ret, after_some, br_true, br_false, ↓then_normal, ↓then_exit, ↓then_ret, ↓blk_normal, ↓blk_exit, ↓blk_ret, ↓blk_other, ops_nil, ops_some, ops_none, oper_none, oper_some, gd_tt, gd_ff, gd_tf, gd_ft, gd_undef, ↓any_op, ↓any_call, ↓any_callV, ↓any_invoke, xo_t, xo_c, args_nil, args_cons, bin_add, bin_sub, bin_mul, bin_quo, bin_rem, bin_and, bin_or, bin_xor, bin_andNot, bin_eql, bin_neq, bin_lss, bin_leq, bin_gtr, bin_geq, bin_shl, bin_shr, bin_bools, bin_strs, bin_ptrs, bin_slices, bin_aggs, ↓Option.bind_some, ↓Option.map_some, ↓cond_true, ↓cond_false, evC, evOp, XO.lit, setArgs, Tr.get_set, Option.bind_some, Option.map_some, cond_true, cond_false, maxI, maxFrom, minI, minFrom, aConv, aBinE, aEq, eqScal, aUn, evRes, fin, oneOf, if_true, if_false, callee, reduceCtorEq, Nat.reduceEqDiff, and_self, decide_true, decide_false, beq_true, beq_false, Bool.not_true, Bool.not_false, List.getElem?_cons_zero, List.getElem?_cons_succ, beq_self_eq_true, gt_iff_lt, ble_dec, beq_dec, List.head?_cons, AV.undef, eq_self, ne_eq, not_true_eq_false, not_false_eq_true, Int.reduceLT, Int.reduceLE, Int.reduceToNat, Int.reduceEq, Int.reduceNeg, Nat.reduceAdd, Nat.reduceLT, Nat.reduceLeDiff, Nat.reduceMul, Nat.reduceSub, t7]
      exact ⟨_, _, rfl, ⟨p3, e3, none, by rw [← hc3], by rw [← hc3]; exact g3.by_ (by omega)⟩, g3.ext⟩
end
end Go.Proofs.YtgplnlhbloamaaaA
