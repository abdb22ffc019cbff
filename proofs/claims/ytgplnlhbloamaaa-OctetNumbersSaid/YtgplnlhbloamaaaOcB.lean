/- Chapter 1: bytes put behind bytes, padding, cuts, numbers: what both sides come to. -/
import Derived.Test.YtgplnlhbloamaaaOcA
import Derived.Test.YtgplnlhbloamaaaAeNum
set_option linter.unusedVariables false
set_option linter.unusedSimpArgs false
set_option maxRecDepth 10000
namespace Go.Proofs.YtgplnlhbloamaaaA
open Go.RowKit
attribute [local congr] bind_congr1 map_congr1 cond_congr1 withX_congr after_congr br_congr gd_congr

/-- The lowest bytes of a number, the highest first. -/
def be (n : Int) : Nat → List Nat
  | 0 => []
  | j + 1 => (n / 2 ^ (8 * j) % 256).toNat :: be n j
theorem be_len (n : Int) : ∀ j, (be n j).length = j
  | 0 => rfl
  | j + 1 => by rw [be, List.length_cons, be_len n j]
def putL (l : List Nat) (n size : Int) : List Nat := if size < 1 ∨ 8 < size then l else l ++ be n size.toNat
structure I11 (Sb : St) (l : List Nat) (n : Int) (z m : Nat) (T : Tm) (S : St) : Prop where
  t1 : T.get 1 = some (.int .u64 n)
  t8 : T.get 8 = some (.int .i64 ((m : Int) - 1))
  mz : m ≤ z
  more : ∃ p e c, T.get 7 = some (.slice p c.length e none) ∧ Gr Sb S p e c ∧ c ++ be n m = l ++ be n z
theorem u8_nat (n : Int) (j : Nat) : IntKind.u8.wrap (n / 2 ^ (8 * j)) = (((n / 2 ^ (8 * j) % 256).toNat : Nat) : Int) ∧ (n / 2 ^ (8 * j) % 256).toNat < 256 := by
  rw [IntKind.wrap_u8]
  omega
section
variable {S : St} {p : Option (Nat × Nat × Nat)} {e : Nat} {c : Option Nat} {l : List Nat} (k : Nat)
set_option maxHeartbeats 1000000 in
theorem round11 {Sb : St} {n : Int} {z : Nat} (hz : z ≤ 8) (hr : l.length + 8 ≤ 140737488355328) (m : Nat) (T : Tm) (S : St) (h : I11 Sb l n z m T S) :
    Goes (evF X0 AP (k + 19)) (k + 19) af11_l0 T S (Then (fun T' S' => ∃ m', I11 Sb l n z m' T' S' ∧ id m' < id m) fun r T' S' => r = .exit 0 ∧ I11 Sb l n z 0 T' S') := by
  obtain ⟨t1, t8, mz, p, e, c, t7, hg, hc⟩ := h
  rcases m with _ | j
  · have c0 : ¬ (0 : Int) ≤ ((0 : Nat) : Int) - 1 := by omega
    simp -implicitDefEqProofs -dsimp (maxSteps := 10000000) only [af11_l0, ↓goes_loop, ↓goes_seq, ↓goes_reg, ↓goes_dreg, ↓goes_cond, ↓goes_block, ↓goes_skip, ↓goes_exit, ↓goes_ret, after_some, br_true, br_false, ↓then_normal, ↓then_exit, ↓then_ret, ↓blk_normal, ↓blk_exit, ↓blk_ret, ↓blk_other, ops_nil, ops_some, ops_none, oper_none, oper_some, gd_tt, gd_ff, gd_tf, gd_ft, gd_undef, ↓any_op, ↓any_call, ↓any_callV, ↓any_invoke, xo_t, xo_c, args_nil, args_cons, bin_add, bin_sub, bin_mul, bin_quo, bin_rem, bin_and, bin_or, bin_xor, bin_andNot, bin_eql, bin_neq, bin_lss, bin_leq, bin_gtr, bin_geq, bin_shl, bin_shr, bin_bools, bin_strs, bin_ptrs, bin_slices, bin_aggs, ↓Option.bind_some, ↓Option.map_some, ↓cond_true, ↓cond_false, evC, evOp, XO.lit, setArgs, Tr.get_set, Option.bind_some, Option.map_some, cond_true, cond_false, maxI, maxFrom, minI, minFrom, aConv, aBinE, aEq, eqScal, aUn, evRes, fin, oneOf, if_true, if_false, callee, reduceCtorEq, Nat.reduceEqDiff, and_self, decide_true, decide_false, beq_true, beq_false, Bool.not_true, Bool.not_false, List.getElem?_cons_zero, List.getElem?_cons_succ, beq_self_eq_true, gt_iff_lt, ble_dec, beq_dec, List.head?_cons, AV.undef, eq_self, ne_eq, not_true_eq_false, not_false_eq_true, Int.reduceLT, Int.reduceLE, Int.reduceToNat, Int.reduceEq, Int.reduceNeg, Nat.reduceAdd, Nat.reduceLT, Nat.reduceLeDiff, Nat.reduceMul, Nat.reduceSub, AV.cells, AV.tup, Bool.true_and, true_and, and_true, List.drop_nil, List.append_nil, rd_put, rd_alloc, rdO, St.get_put, St.get_alloc, St.next_put, St.next_alloc, St.wr, Bool.and_self, Bool.and_true, List.length_cons, List.length_nil, List.take_succ_cons, List.take_zero, List.drop_succ_cons, List.drop_zero, List.cons_append, List.nil_append, Nat.zero_add, Nat.add_zero, Nat.reduceMul, t1, t7, t8, c0]
    refine ⟨?_, ?_, by omega, p, e, c, ?_, hg, hc⟩ <;> simp only [Tr.get_set, Nat.reduceEqDiff, if_false, if_true, t1, t7, t8]
  · have e8 : (((j + 1 : Nat) : Int)) - 1 = (j : Int) := by omega
    rw [e8] at t8
    have hlen : c.length + (j + 1) = l.length + z := by
      have := congrArg List.length hc
      simpa [be_len] using this
    have c0 : (0 : Int) ≤ (j : Int) := by omega
    have c1 : ¬ ((j : Int) * 8) < 0 := by omega
    have w1 : IntKind.i64.wrap ((j : Int) * 8) = (j : Int) * 8 := w64_id (by omega) (by omega)
    have w2 : IntKind.i64.wrap ((j : Int) - 1) = (j : Int) - 1 := w64_id (by omega) (by omega)
    have hs : min ((j : Int) * 8).toNat IntKind.u64.bits = 8 * j := by
      show min ((j : Int) * 8).toNat 64 = 8 * j
      omega
    obtain ⟨hw, hb⟩ := u8_nat n j
    obtain ⟨b, hbb⟩ : ∃ b, (n / 2 ^ (8 * j) % 256).toNat = b := ⟨_, rfl⟩
    rw [hbb] at hw hb
    obtain ⟨p', e', S', h1, h2⟩ := (hg.more (.alloc S (.cells [.int .u8 (b : Int)] 0 0 true))).app1 hb (by omega)
    simp -implicitDefEqProofs -dsimp (maxSteps := 10000000) only [af11_l0, ↓goes_loop, ↓goes_seq, ↓goes_reg, ↓goes_dreg, ↓goes_cond, ↓goes_block, ↓goes_skip, ↓goes_exit, ↓goes_ret, after_some, br_true, br_false, ↓then_normal, ↓then_exit, ↓then_ret, ↓blk_normal, ↓blk_exit, ↓blk_ret, ↓blk_other, ops_nil, ops_some, ops_none, oper_none, oper_some, gd_tt, gd_ff, gd_tf, gd_ft, gd_undef, ↓any_op, ↓any_call, ↓any_callV, ↓any_invoke, xo_t, xo_c, args_nil, args_cons, bin_add, bin_sub, bin_mul, bin_quo, bin_rem, bin_and, bin_or, bin_xor, bin_andNot, bin_eql, bin_neq, bin_lss, bin_leq, bin_gtr, bin_geq, bin_shl, bin_shr, bin_bools, bin_strs, bin_ptrs, bin_slices, bin_aggs, ↓Option.bind_some, ↓Option.map_some, ↓cond_true, ↓cond_false, evC, evOp, XO.lit, setArgs, Tr.get_set, Option.bind_some, Option.map_some, cond_true, cond_false, maxI, maxFrom, minI, minFrom, aConv, aBinE, aEq, eqScal, aUn, evRes, fin, oneOf, if_true, if_false, callee, reduceCtorEq, Nat.reduceEqDiff, and_self, decide_true, decide_false, beq_true, beq_false, Bool.not_true, Bool.not_false, List.getElem?_cons_zero, List.getElem?_cons_succ, beq_self_eq_true, gt_iff_lt, ble_dec, beq_dec, List.head?_cons, AV.undef, eq_self, ne_eq, not_true_eq_false, not_false_eq_true, Int.reduceLT, Int.reduceLE, Int.reduceToNat, Int.reduceEq, Int.reduceNeg, Nat.reduceAdd, Nat.reduceLT, Nat.reduceLeDiff, Nat.reduceMul, Nat.reduceSub, AV.cells, AV.tup, Bool.true_and, true_and, and_true, List.drop_nil, List.append_nil, rd_put, rd_alloc, rdO, St.get_put, St.get_alloc, St.next_put, St.next_alloc, St.wr, Bool.and_self, Bool.and_true, List.length_cons, List.length_nil, List.take_succ_cons, List.take_zero, List.drop_succ_cons, List.drop_zero, List.cons_append, List.nil_append, Nat.zero_add, Nat.add_zero, Nat.reduceMul, aFill, evParts, rep, List.replicate_succ, List.replicate_zero, List.flatten_cons, List.flatten_nil, List.append_nil, newSl, newVar, t1, t7, t8, c0, c1, w1, hs, hw, h1, w2]
    refine ⟨j, ⟨?_, ?_, by omega, p', e', c ++ [b], ?_, h2, ?_⟩, Nat.lt_succ_self j⟩
    rotate_right
    · rw [← hc, be, hbb, List.append_assoc]; rfl
    all_goals simp only [Tr.get_set, Nat.reduceEqDiff, if_false, if_true, t1, t7, t8, List.length_append, List.length_singleton]
set_option maxHeartbeats 1000000 in
/-- octet.Put -/
theorem T11 (h : By S p e l) (hr : l.length ≤ 140737488351500) {n size : Int} (hs : I64 size) :
    ∃ v' S', evF X0 AP (k + 20) 11 [.slice p l.length e c, .int .u64 n, .int .i64 size] S = some (v', S') ∧ Bs S' v' (putL l n size) ∧ Ext S S' := by
  obtain ⟨p1, e1, S1, h19, g1⟩ := T19 (k + 16) (c := c) h (by omega)
  have h19 : evF X0 AP (k + 19) 19 [.slice p l.length e c] S = some (.slice p1 l.length e1 none, S1) := h19
  refine evF_goes (af := af11) (k := k + 19) rfl rfl rfl ?_
  have b1 := g1.by_ (by omega)
  by_cases c1 : size < 1
  · simp -implicitDefEqProofs -dsimp (maxSteps := 10000000) only [af11, ↓goes_loop, ↓goes_seq, ↓goes_reg, ↓goes_dreg, ↓goes_cond, ↓goes_block, ↓goes_skip, ↓goes_exit, ↓goes_ret, after_some, br_true, br_false, ↓then_normal, ↓then_exit, ↓then_ret, ↓blk_normal, ↓blk_exit, ↓blk_ret, ↓blk_other, ops_nil, ops_some, ops_none, oper_none, oper_some, gd_tt, gd_ff, gd_tf, gd_ft, gd_undef, ↓any_op, ↓any_call, ↓any_callV, ↓any_invoke, xo_t, xo_c, args_nil, args_cons, bin_add, bin_sub, bin_mul, bin_quo, bin_rem, bin_and, bin_or, bin_xor, bin_andNot, bin_eql, bin_neq, bin_lss, bin_leq, bin_gtr, bin_geq, bin_shl, bin_shr, bin_bools, bin_strs, bin_ptrs, bin_slices, bin_aggs, ↓Option.bind_some, ↓Option.map_some, ↓cond_true, ↓cond_false, evC, evOp, XO.lit, setArgs, Tr.tabG, Tr.tabS, Tr.tabL, Tr.get_lf, Option.bind_some, Option.map_some, cond_true, cond_false, maxI, maxFrom, minI, minFrom, aConv, aBinE, aEq, eqScal, aUn, evRes, fin, oneOf, if_true, if_false, callee, reduceCtorEq, Nat.reduceEqDiff, and_self, decide_true, decide_false, beq_true, beq_false, Bool.not_true, Bool.not_false, List.getElem?_cons_zero, List.getElem?_cons_succ, beq_self_eq_true, gt_iff_lt, ble_dec, beq_dec, List.head?_cons, AV.undef, eq_self, ne_eq, not_true_eq_false, not_false_eq_true, Int.reduceLT, Int.reduceLE, Int.reduceToNat, Int.reduceEq, Int.reduceNeg, Nat.reduceAdd, Nat.reduceLT, Nat.reduceLeDiff, Nat.reduceMul, Nat.reduceSub, h19, c1]
    exact ⟨_, _, rfl, ⟨p1, e1, none, by simp only [putL, c1, true_or, if_true], by simpa only [putL, c1, true_or, if_true] using b1⟩, g1.ext⟩
  by_cases c2 : 8 < size
  · simp -implicitDefEqProofs -dsimp (maxSteps := 10000000) only [af11, ↓goes_loop, ↓goes_seq, ↓goes_reg, ↓goes_dreg, ↓goes_cond, ↓goes_block, ↓goes_skip, ↓goes_exit, ↓goes_ret, after_some, br_true, br_false, ↓then_normal, ↓then_exit, ↓then_ret, ↓blk_normal, ↓blk_exit, ↓blk_ret, ↓blk_other, ops_nil, ops_some, ops_none, oper_none, oper_some, gd_tt, gd_ff, gd_tf, gd_ft, gd_undef, ↓any_op, ↓any_call, ↓any_callV, ↓any_invoke, xo_t, xo_c, args_nil, args_cons, bin_add, bin_sub, bin_mul, bin_quo, bin_rem, bin_and, bin_or, bin_xor, bin_andNot, bin_eql, bin_neq, bin_lss, bin_leq, bin_gtr, bin_geq, bin_shl, bin_shr, bin_bools, bin_strs, bin_ptrs, bin_slices, bin_aggs, ↓Option.bind_some, ↓Option.map_some, ↓cond_true, ↓cond_false, evC, evOp, XO.lit, setArgs, Tr.tabG, Tr.tabS, Tr.tabL, Tr.get_lf, Option.bind_some, Option.map_some, cond_true, cond_false, maxI, maxFrom, minI, minFrom, aConv, aBinE, aEq, eqScal, aUn, evRes, fin, oneOf, if_true, if_false, callee, reduceCtorEq, Nat.reduceEqDiff, and_self, decide_true, decide_false, beq_true, beq_false, Bool.not_true, Bool.not_false, List.getElem?_cons_zero, List.getElem?_cons_succ, beq_self_eq_true, gt_iff_lt, ble_dec, beq_dec, List.head?_cons, AV.undef, eq_self, ne_eq, not_true_eq_false, not_false_eq_true, Int.reduceLT, Int.reduceLE, Int.reduceToNat, Int.reduceEq, Int.reduceNeg, Nat.reduceAdd, Nat.reduceLT, Nat.reduceLeDiff, Nat.reduceMul, Nat.reduceSub, h19, c1, c2]
    exact ⟨_, _, rfl, ⟨p1, e1, none, by simp only [putL, c2, or_true, if_true], by simpa only [putL, c2, or_true, if_true] using b1⟩, g1.ext⟩
  have w1 : IntKind.i64.wrap (size - 1) = size - 1 := w64_id (by omega) (by omega)
  simp -implicitDefEqProofs -dsimp (maxSteps := 10000000) only [af11, ↓goes_loop, ↓goes_seq, ↓goes_reg, ↓goes_dreg, ↓goes_cond, ↓goes_block, ↓goes_skip, ↓goes_exit, ↓goes_ret, after_some, br_true, br_false, ↓then_normal, ↓then_exit, ↓then_ret, ↓blk_normal, ↓blk_exit, ↓blk_ret, ↓blk_other, ops_nil, ops_some, ops_none, oper_none, oper_some, gd_tt, gd_ff, gd_tf, gd_ft, gd_undef, ↓any_op, ↓any_call, ↓any_callV, ↓any_invoke, xo_t, xo_c, args_nil, args_cons, bin_add, bin_sub, bin_mul, bin_quo, bin_rem, bin_and, bin_or, bin_xor, bin_andNot, bin_eql, bin_neq, bin_lss, bin_leq, bin_gtr, bin_geq, bin_shl, bin_shr, bin_bools, bin_strs, bin_ptrs, bin_slices, bin_aggs, ↓Option.bind_some, ↓Option.map_some, ↓cond_true, ↓cond_false, evC, evOp, XO.lit, setArgs, Tr.tabG, Tr.tabS, Tr.tabL, Tr.get_lf, Option.bind_some, Option.map_some, cond_true, cond_false, maxI, maxFrom, minI, minFrom, aConv, aBinE, aEq, eqScal, aUn, evRes, fin, oneOf, if_true, if_false, callee, reduceCtorEq, Nat.reduceEqDiff, and_self, decide_true, decide_false, beq_true, beq_false, Bool.not_true, Bool.not_false, List.getElem?_cons_zero, List.getElem?_cons_succ, beq_self_eq_true, gt_iff_lt, ble_dec, beq_dec, List.head?_cons, AV.undef, eq_self, ne_eq, not_true_eq_false, not_false_eq_true, Int.reduceLT, Int.reduceLE, Int.reduceToNat, Int.reduceEq, Int.reduceNeg, Nat.reduceAdd, Nat.reduceLT, Nat.reduceLeDiff, Nat.reduceMul, Nat.reduceSub, h19, c1, c2, w1]
  refine .while (I11 S l n size.toNat) id size.toNat ⟨rfl, ?_, Nat.le_refl _, p1, e1, l, rfl, g1, rfl⟩ (by show size.toNat < k + 19; omega) fun m T2 S2 h2 => (round11 k (by omega) (by omega) m T2 S2 h2).mono ?_
  · have : ((size.toNat : Nat) : Int) - 1 = size - 1 := by omega
    rw [this]; rfl
  · intro r T' S' hq
    cases r with
    | normal => exact hq
    | ret => exact absurd hq.1 (by simp)
    | exit i =>
      obtain ⟨hi, t1, t8, mz, p3, e3, c3, t7, g3, hc3⟩ := hq
      cases hi
      have hc3 : c3 = putL l n size := by
        simp only [be, List.append_nil] at hc3
        rw [hc3, putL, if_neg (by omega)]
      have hl3 : c3.length ≤ 140737488355328 := by
        rw [hc3, putL, if_neg (by omega), List.length_append, be_len]; omega
      obtain ⟨v', h20, hv⟩ := T20 (k + 16) g3 hl3
      have h20 : evF X0 AP (k + 19) 20 [.slice p3 c3.length e3 none] S' = some (v', S') := h20
      simp -implicitDefEqProofs -dsimp (maxSteps := 10000000) only [↓goes_loop, ↓goes_seq, ↓goes_reg, ↓goes_dreg, ↓goes_cond, ↓goes_block, ↓goes_skip, ↓goes_exit, ↓goes_ret, after_some, br_true, br_false, ↓then_normal, ↓then_exit, ↓then_ret, ↓blk_normal, ↓blk_exit, ↓blk_ret, ↓blk_other, ops_nil, ops_some, ops_none, oper_none, oper_some, gd_tt, gd_ff, gd_tf, gd_ft, gd_undef, ↓any_op, ↓any_call, ↓any_callV, ↓any_invoke, xo_t, xo_c, args_nil, args_cons, bin_add, bin_sub, bin_mul, bin_quo, bin_rem, bin_and, bin_or, bin_xor, bin_andNot, bin_eql, bin_neq, bin_lss, bin_leq, bin_gtr, bin_geq, bin_shl, bin_shr, bin_bools, bin_strs, bin_ptrs, bin_slices, bin_aggs, ↓Option.bind_some, ↓Option.map_some, ↓cond_true, ↓cond_false, evC, evOp, XO.lit, setArgs, Tr.get_set, Option.bind_some, Option.map_some, cond_true, cond_false, maxI, maxFrom, minI, minFrom, aConv, aBinE, aEq, eqScal, aUn, evRes, fin, oneOf, if_true, if_false, callee, reduceCtorEq, Nat.reduceEqDiff, and_self, decide_true, decide_false, beq_true, beq_false, Bool.not_true, Bool.not_false, List.getElem?_cons_zero, List.getElem?_cons_succ, beq_self_eq_true, gt_iff_lt, ble_dec, beq_dec, List.head?_cons, AV.undef, eq_self, ne_eq, not_true_eq_false, not_false_eq_true, Int.reduceLT, Int.reduceLE, Int.reduceToNat, Int.reduceEq, Int.reduceNeg, Nat.reduceAdd, Nat.reduceLT, Nat.reduceLeDiff, Nat.reduceMul, Nat.reduceSub, t7, h20]
      exact ⟨_, _, rfl, hc3 ▸ hv, g3.ext⟩
/-- octet.Cut, and the document's. -/
def cutOk (l : List Nat) (a n : Int) : Prop := 0 ≤ a ∧ 0 ≤ n ∧ a ≤ l.length ∧ n ≤ (l.length : Int) - a
instance (l : List Nat) (a n : Int) : Decidable (cutOk l a n) := by unfold cutOk; infer_instance
def cutL (l : List Nat) (a n : Int) : List Nat := if cutOk l a n then (l.drop a.toNat).take n.toNat else []
theorem cutL_byt {l : List Nat} (h : Byt l) (a n : Int) : Byt (cutL l a n) := by unfold cutL; split; exact h.sub _ _; exact .nil
theorem cutL_len {l : List Nat} {a n : Int} (h : cutOk l a n) : (cutL l a n).length = n.toNat := by
  have := h
  unfold cutOk at this
  rw [cutL, if_pos h, List.length_take, List.length_drop]; omega
set_option maxHeartbeats 1000000 in
theorem T14 (h : By S p e l) (hr : l.length ≤ 140737488351500) {a n : Int} (ha : I64 a) (hn : I64 n) :
    ∃ v' S', evF X0 AP (k + 4) 14 [.slice p l.length e c, .int .i64 a, .int .i64 n] S = some (.tuple [v', .bool (decide (cutOk l a n))], S') ∧ Bs S' v' (cutL l a n) ∧ Ext S S' := by
  have hm : l.length ≤ 9223372036854775807 := by omega
  have w1 : IntKind.i64.wrap ((l.length : Int) - a) = (l.length : Int) - a ∨ a < 0 := by by_cases h : a < 0; exact .inr h; exact .inl (w64_id (by have := ha.2; omega) (by omega))
  by_cases c1 : a < 0
  · have hk : ¬ cutOk l a n := by unfold cutOk; omega
    refine ⟨_, S, ?_, by rw [cutL, if_neg hk]; exact .zero S 0, .refl S⟩
    rw [decide_eq_false hk, evF_body (af := af14) rfl rfl rfl]
    simp -implicitDefEqProofs -dsimp (maxSteps := 10000000) only [af14, ops_nil, ops_some, ops_none, oper_none, oper_some, gd_tt, gd_ff, gd_tf, gd_ft, gd_undef, ↓any_op, ↓any_call, ↓any_callV, ↓any_invoke, xo_t, xo_c, args_nil, args_cons, bin_add, bin_sub, bin_mul, bin_quo, bin_rem, bin_and, bin_or, bin_xor, bin_andNot, bin_eql, bin_neq, bin_lss, bin_leq, bin_gtr, bin_geq, bin_shl, bin_shr, bin_bools, bin_strs, bin_ptrs, bin_slices, bin_aggs, ↓Option.bind_some, ↓Option.map_some, ↓cond_true, ↓cond_false, evC, evOp, XO.lit, setArgs, Tr.tabG, Tr.tabS, Tr.tabL, Tr.get_lf, Option.bind_some, Option.map_some, cond_true, cond_false, maxI, maxFrom, minI, minFrom, aConv, aBinE, aEq, eqScal, aUn, evRes, fin, oneOf, if_true, if_false, callee, reduceCtorEq, Nat.reduceEqDiff, and_self, decide_true, decide_false, beq_true, beq_false, Bool.not_true, Bool.not_false, List.getElem?_cons_zero, List.getElem?_cons_succ, beq_self_eq_true, gt_iff_lt, ble_dec, beq_dec, List.head?_cons, AV.undef, eq_self, ne_eq, not_true_eq_false, not_false_eq_true, Int.reduceLT, Int.reduceLE, Int.reduceToNat, Int.reduceEq, Int.reduceNeg, Nat.reduceAdd, Nat.reduceLT, Nat.reduceLeDiff, Nat.reduceMul, Nat.reduceSub, c1]
  have w1 := w1.resolve_right c1
  by_cases c2 : n < 0
  · have hk : ¬ cutOk l a n := by unfold cutOk; omega
    refine ⟨_, S, ?_, by rw [cutL, if_neg hk]; exact .zero S 0, .refl S⟩
    rw [decide_eq_false hk, evF_body (af := af14) rfl rfl rfl]
    simp -implicitDefEqProofs -dsimp (maxSteps := 10000000) only [af14, ops_nil, ops_some, ops_none, oper_none, oper_some, gd_tt, gd_ff, gd_tf, gd_ft, gd_undef, ↓any_op, ↓any_call, ↓any_callV, ↓any_invoke, xo_t, xo_c, args_nil, args_cons, bin_add, bin_sub, bin_mul, bin_quo, bin_rem, bin_and, bin_or, bin_xor, bin_andNot, bin_eql, bin_neq, bin_lss, bin_leq, bin_gtr, bin_geq, bin_shl, bin_shr, bin_bools, bin_strs, bin_ptrs, bin_slices, bin_aggs, ↓Option.bind_some, ↓Option.map_some, ↓cond_true, ↓cond_false, evC, evOp, XO.lit, setArgs, Tr.tabG, Tr.tabS, Tr.tabL, Tr.get_lf, Option.bind_some, Option.map_some, cond_true, cond_false, maxI, maxFrom, minI, minFrom, aConv, aBinE, aEq, eqScal, aUn, evRes, fin, oneOf, if_true, if_false, callee, reduceCtorEq, Nat.reduceEqDiff, and_self, decide_true, decide_false, beq_true, beq_false, Bool.not_true, Bool.not_false, List.getElem?_cons_zero, List.getElem?_cons_succ, beq_self_eq_true, gt_iff_lt, ble_dec, beq_dec, List.head?_cons, AV.undef, eq_self, ne_eq, not_true_eq_false, not_false_eq_true, Int.reduceLT, Int.reduceLE, Int.reduceToNat, Int.reduceEq, Int.reduceNeg, Nat.reduceAdd, Nat.reduceLT, Nat.reduceLeDiff, Nat.reduceMul, Nat.reduceSub, c1, c2]
  by_cases c3 : (l.length : Int) < a
  · have hk : ¬ cutOk l a n := by unfold cutOk; omega
    refine ⟨_, S, ?_, by rw [cutL, if_neg hk]; exact .zero S 0, .refl S⟩
    rw [decide_eq_false hk, evF_body (af := af14) rfl rfl rfl]
    simp -implicitDefEqProofs -dsimp (maxSteps := 10000000) only [af14, ops_nil, ops_some, ops_none, oper_none, oper_some, gd_tt, gd_ff, gd_tf, gd_ft, gd_undef, ↓any_op, ↓any_call, ↓any_callV, ↓any_invoke, xo_t, xo_c, args_nil, args_cons, bin_add, bin_sub, bin_mul, bin_quo, bin_rem, bin_and, bin_or, bin_xor, bin_andNot, bin_eql, bin_neq, bin_lss, bin_leq, bin_gtr, bin_geq, bin_shl, bin_shr, bin_bools, bin_strs, bin_ptrs, bin_slices, bin_aggs, ↓Option.bind_some, ↓Option.map_some, ↓cond_true, ↓cond_false, evC, evOp, XO.lit, setArgs, Tr.tabG, Tr.tabS, Tr.tabL, Tr.get_lf, Option.bind_some, Option.map_some, cond_true, cond_false, maxI, maxFrom, minI, minFrom, aConv, aBinE, aEq, eqScal, aUn, evRes, fin, oneOf, if_true, if_false, callee, reduceCtorEq, Nat.reduceEqDiff, and_self, decide_true, decide_false, beq_true, beq_false, Bool.not_true, Bool.not_false, List.getElem?_cons_zero, List.getElem?_cons_succ, beq_self_eq_true, gt_iff_lt, ble_dec, beq_dec, List.head?_cons, AV.undef, eq_self, ne_eq, not_true_eq_false, not_false_eq_true, Int.reduceLT, Int.reduceLE, Int.reduceToNat, Int.reduceEq, Int.reduceNeg, Nat.reduceAdd, Nat.reduceLT, Nat.reduceLeDiff, Nat.reduceMul, Nat.reduceSub, c1, c2, c3, hm]
  by_cases c4 : (l.length : Int) - a < n
  · have hk : ¬ cutOk l a n := by unfold cutOk; omega
    refine ⟨_, S, ?_, by rw [cutL, if_neg hk]; exact .zero S 0, .refl S⟩
    rw [decide_eq_false hk, evF_body (af := af14) rfl rfl rfl]
    simp -implicitDefEqProofs -dsimp (maxSteps := 10000000) only [af14, ops_nil, ops_some, ops_none, oper_none, oper_some, gd_tt, gd_ff, gd_tf, gd_ft, gd_undef, ↓any_op, ↓any_call, ↓any_callV, ↓any_invoke, xo_t, xo_c, args_nil, args_cons, bin_add, bin_sub, bin_mul, bin_quo, bin_rem, bin_and, bin_or, bin_xor, bin_andNot, bin_eql, bin_neq, bin_lss, bin_leq, bin_gtr, bin_geq, bin_shl, bin_shr, bin_bools, bin_strs, bin_ptrs, bin_slices, bin_aggs, ↓Option.bind_some, ↓Option.map_some, ↓cond_true, ↓cond_false, evC, evOp, XO.lit, setArgs, Tr.tabG, Tr.tabS, Tr.tabL, Tr.get_lf, Option.bind_some, Option.map_some, cond_true, cond_false, maxI, maxFrom, minI, minFrom, aConv, aBinE, aEq, eqScal, aUn, evRes, fin, oneOf, if_true, if_false, callee, reduceCtorEq, Nat.reduceEqDiff, and_self, decide_true, decide_false, beq_true, beq_false, Bool.not_true, Bool.not_false, List.getElem?_cons_zero, List.getElem?_cons_succ, beq_self_eq_true, gt_iff_lt, ble_dec, beq_dec, List.head?_cons, AV.undef, eq_self, ne_eq, not_true_eq_false, not_false_eq_true, Int.reduceLT, Int.reduceLE, Int.reduceToNat, Int.reduceEq, Int.reduceNeg, Nat.reduceAdd, Nat.reduceLT, Nat.reduceLeDiff, Nat.reduceMul, Nat.reduceSub, c1, c2, c3, c4, hm, w1]
  have hk : cutOk l a n := by unfold cutOk; omega
  have w2 : IntKind.i64.wrap (a + n) = a + n := w64_id (by omega) (by omega)
  obtain ⟨p', e', c', h1, h2⟩ := h.cut c (lo := some (.int .i64 a)) (hi := some (.int .i64 (a + n))) (bnd_some (by omega) (by omega)) (bnd_some (by omega) (by omega)) (by omega) (by omega)
  have hd : (a + n).toNat - a.toNat = n.toNat := by omega
  rw [hd] at h1 h2
  have hl : ((l.drop a.toNat).take n.toNat).length ≤ l.length := by rw [List.length_take, List.length_drop]; omega
  obtain ⟨p1, e1, S1, h19, g1⟩ := T19 k (c := c') h2 (by omega)
  refine ⟨_, S1, ?_, by rw [cutL, if_pos hk]; exact ⟨p1, e1, none, rfl, g1.by_ (by omega)⟩, g1.ext⟩
  rw [decide_eq_true hk, evF_body (af := af14) rfl rfl rfl]
  simp -implicitDefEqProofs -dsimp (maxSteps := 10000000) only [af14, ops_nil, ops_some, ops_none, oper_none, oper_some, gd_tt, gd_ff, gd_tf, gd_ft, gd_undef, ↓any_op, ↓any_call, ↓any_callV, ↓any_invoke, xo_t, xo_c, args_nil, args_cons, bin_add, bin_sub, bin_mul, bin_quo, bin_rem, bin_and, bin_or, bin_xor, bin_andNot, bin_eql, bin_neq, bin_lss, bin_leq, bin_gtr, bin_geq, bin_shl, bin_shr, bin_bools, bin_strs, bin_ptrs, bin_slices, bin_aggs, ↓Option.bind_some, ↓Option.map_some, ↓cond_true, ↓cond_false, evC, evOp, XO.lit, setArgs, Tr.tabG, Tr.tabS, Tr.tabL, Tr.get_lf, Option.bind_some, Option.map_some, cond_true, cond_false, maxI, maxFrom, minI, minFrom, aConv, aBinE, aEq, eqScal, aUn, evRes, fin, oneOf, if_true, if_false, callee, reduceCtorEq, Nat.reduceEqDiff, and_self, decide_true, decide_false, beq_true, beq_false, Bool.not_true, Bool.not_false, List.getElem?_cons_zero, List.getElem?_cons_succ, beq_self_eq_true, gt_iff_lt, ble_dec, beq_dec, List.head?_cons, AV.undef, eq_self, ne_eq, not_true_eq_false, not_false_eq_true, Int.reduceLT, Int.reduceLE, Int.reduceToNat, Int.reduceEq, Int.reduceNeg, Nat.reduceAdd, Nat.reduceLT, Nat.reduceLeDiff, Nat.reduceMul, Nat.reduceSub, c1, c2, c3, c4, hm, w1, w2, evOpt, h1, h19]
set_option maxHeartbeats 1000000 in
theorem T16 (h : By S p e l) (hr : l.length ≤ 140737488351500) {a n : Int} (ha : I64 a) (hn : I64 n) :
    ∃ v' S', evF X0 AP (k + 4) 16 [.slice p l.length e c, .int .i64 a, .int .i64 n] S = some (.tuple [v', .bool (decide (cutOk l a n))], S') ∧ Bs S' v' (cutL l a n) ∧ Ext S S' := by
  have hm : l.length ≤ 9223372036854775807 := by omega
  have w1 : IntKind.i64.wrap ((l.length : Int) - a) = (l.length : Int) - a ∨ a < 0 := by by_cases h : a < 0; exact .inr h; exact .inl (w64_id (by have := ha.2; omega) (by omega))
  by_cases c1 : a < 0
  · have hk : ¬ cutOk l a n := by unfold cutOk; omega
    refine ⟨_, S, ?_, by rw [cutL, if_neg hk]; exact .zero S 0, .refl S⟩
    rw [decide_eq_false hk, evF_body (af := af16) rfl rfl rfl]
    simp -implicitDefEqProofs -dsimp (maxSteps := 10000000) only [af16, ops_nil, ops_some, ops_none, oper_none, oper_some, gd_tt, gd_ff, gd_tf, gd_ft, gd_undef, ↓any_op, ↓any_call, ↓any_callV, ↓any_invoke, xo_t, xo_c, args_nil, args_cons, bin_add, bin_sub, bin_mul, bin_quo, bin_rem, bin_and, bin_or, bin_xor, bin_andNot, bin_eql, bin_neq, bin_lss, bin_leq, bin_gtr, bin_geq, bin_shl, bin_shr, bin_bools, bin_strs, bin_ptrs, bin_slices, bin_aggs, ↓Option.bind_some, ↓Option.map_some, ↓cond_true, ↓cond_false, evC, evOp, XO.lit, setArgs, Tr.tabG, Tr.tabS, Tr.tabL, Tr.get_lf, Option.bind_some, Option.map_some, cond_true, cond_false, maxI, maxFrom, minI, minFrom, aConv, aBinE, aEq, eqScal, aUn, evRes, fin, oneOf, if_true, if_false, callee, reduceCtorEq, Nat.reduceEqDiff, and_self, decide_true, decide_false, beq_true, beq_false, Bool.not_true, Bool.not_false, List.getElem?_cons_zero, List.getElem?_cons_succ, beq_self_eq_true, gt_iff_lt, ble_dec, beq_dec, List.head?_cons, AV.undef, eq_self, ne_eq, not_true_eq_false, not_false_eq_true, Int.reduceLT, Int.reduceLE, Int.reduceToNat, Int.reduceEq, Int.reduceNeg, Nat.reduceAdd, Nat.reduceLT, Nat.reduceLeDiff, Nat.reduceMul, Nat.reduceSub, c1]
  have w1 := w1.resolve_right c1
  by_cases c2 : n < 0
  · have hk : ¬ cutOk l a n := by unfold cutOk; omega
    refine ⟨_, S, ?_, by rw [cutL, if_neg hk]; exact .zero S 0, .refl S⟩
    rw [decide_eq_false hk, evF_body (af := af16) rfl rfl rfl]
    simp -implicitDefEqProofs -dsimp (maxSteps := 10000000) only [af16, ops_nil, ops_some, ops_none, oper_none, oper_some, gd_tt, gd_ff, gd_tf, gd_ft, gd_undef, ↓any_op, ↓any_call, ↓any_callV, ↓any_invoke, xo_t, xo_c, args_nil, args_cons, bin_add, bin_sub, bin_mul, bin_quo, bin_rem, bin_and, bin_or, bin_xor, bin_andNot, bin_eql, bin_neq, bin_lss, bin_leq, bin_gtr, bin_geq, bin_shl, bin_shr, bin_bools, bin_strs, bin_ptrs, bin_slices, bin_aggs, ↓Option.bind_some, ↓Option.map_some, ↓cond_true, ↓cond_false, evC, evOp, XO.lit, setArgs, Tr.tabG, Tr.tabS, Tr.tabL, Tr.get_lf, Option.bind_some, Option.map_some, cond_true, cond_false, maxI, maxFrom, minI, minFrom, aConv, aBinE, aEq, eqScal, aUn, evRes, fin, oneOf, if_true, if_false, callee, reduceCtorEq, Nat.reduceEqDiff, and_self, decide_true, decide_false, beq_true, beq_false, Bool.not_true, Bool.not_false, List.getElem?_cons_zero, List.getElem?_cons_succ, beq_self_eq_true, gt_iff_lt, ble_dec, beq_dec, List.head?_cons, AV.undef, eq_self, ne_eq, not_true_eq_false, not_false_eq_true, Int.reduceLT, Int.reduceLE, Int.reduceToNat, Int.reduceEq, Int.reduceNeg, Nat.reduceAdd, Nat.reduceLT, Nat.reduceLeDiff, Nat.reduceMul, Nat.reduceSub, c1, c2]
  by_cases c3 : (l.length : Int) < a
  · have hk : ¬ cutOk l a n := by unfold cutOk; omega
    refine ⟨_, S, ?_, by rw [cutL, if_neg hk]; exact .zero S 0, .refl S⟩
    rw [decide_eq_false hk, evF_body (af := af16) rfl rfl rfl]
    simp -implicitDefEqProofs -dsimp (maxSteps := 10000000) only [af16, ops_nil, ops_some, ops_none, oper_none, oper_some, gd_tt, gd_ff, gd_tf, gd_ft, gd_undef, ↓any_op, ↓any_call, ↓any_callV, ↓any_invoke, xo_t, xo_c, args_nil, args_cons, bin_add, bin_sub, bin_mul, bin_quo, bin_rem, bin_and, bin_or, bin_xor, bin_andNot, bin_eql, bin_neq, bin_lss, bin_leq, bin_gtr, bin_geq, bin_shl, bin_shr, bin_bools, bin_strs, bin_ptrs, bin_slices, bin_aggs, ↓Option.bind_some, ↓Option.map_some, ↓cond_true, ↓cond_false, evC, evOp, XO.lit, setArgs, Tr.tabG, Tr.tabS, Tr.tabL, Tr.get_lf, Option.bind_some, Option.map_some, cond_true, cond_false, maxI, maxFrom, minI, minFrom, aConv, aBinE, aEq, eqScal, aUn, evRes, fin, oneOf, if_true, if_false, callee, reduceCtorEq, Nat.reduceEqDiff, and_self, decide_true, decide_false, beq_true, beq_false, Bool.not_true, Bool.not_false, List.getElem?_cons_zero, List.getElem?_cons_succ, beq_self_eq_true, gt_iff_lt, ble_dec, beq_dec, List.head?_cons, AV.undef, eq_self, ne_eq, not_true_eq_false, not_false_eq_true, Int.reduceLT, Int.reduceLE, Int.reduceToNat, Int.reduceEq, Int.reduceNeg, Nat.reduceAdd, Nat.reduceLT, Nat.reduceLeDiff, Nat.reduceMul, Nat.reduceSub, c1, c2, c3, hm]
  by_cases c4 : (l.length : Int) - a < n
  · have hk : ¬ cutOk l a n := by unfold cutOk; omega
    refine ⟨_, S, ?_, by rw [cutL, if_neg hk]; exact .zero S 0, .refl S⟩
    rw [decide_eq_false hk, evF_body (af := af16) rfl rfl rfl]
    simp -implicitDefEqProofs -dsimp (maxSteps := 10000000) only [af16, ops_nil, ops_some, ops_none, oper_none, oper_some, gd_tt, gd_ff, gd_tf, gd_ft, gd_undef, ↓any_op, ↓any_call, ↓any_callV, ↓any_invoke, xo_t, xo_c, args_nil, args_cons, bin_add, bin_sub, bin_mul, bin_quo, bin_rem, bin_and, bin_or, bin_xor, bin_andNot, bin_eql, bin_neq, bin_lss, bin_leq, bin_gtr, bin_geq, bin_shl, bin_shr, bin_bools, bin_strs, bin_ptrs, bin_slices, bin_aggs, ↓Option.bind_some, ↓Option.map_some, ↓cond_true, ↓cond_false, evC, evOp, XO.lit, setArgs, Tr.tabG, Tr.tabS, Tr.tabL, Tr.get_lf, Option.bind_some, Option.map_some, cond_true, cond_false, maxI, maxFrom, minI, minFrom, aConv, aBinE, aEq, eqScal, aUn, evRes, fin, oneOf, if_true, if_false, callee, reduceCtorEq, Nat.reduceEqDiff, and_self, decide_true, decide_false, beq_true, beq_false, Bool.not_true, Bool.not_false, List.getElem?_cons_zero, List.getElem?_cons_succ, beq_self_eq_true, gt_iff_lt, ble_dec, beq_dec, List.head?_cons, AV.undef, eq_self, ne_eq, not_true_eq_false, not_false_eq_true, Int.reduceLT, Int.reduceLE, Int.reduceToNat, Int.reduceEq, Int.reduceNeg, Nat.reduceAdd, Nat.reduceLT, Nat.reduceLeDiff, Nat.reduceMul, Nat.reduceSub, c1, c2, c3, c4, hm, w1]
  have hk : cutOk l a n := by unfold cutOk; omega
  have w2 : IntKind.i64.wrap (a + n) = a + n := w64_id (by omega) (by omega)
  obtain ⟨p', e', c', h1, h2⟩ := h.cut c (lo := some (.int .i64 a)) (hi := some (.int .i64 (a + n))) (bnd_some (by omega) (by omega)) (bnd_some (by omega) (by omega)) (by omega) (by omega)
  have hd : (a + n).toNat - a.toNat = n.toNat := by omega
  rw [hd] at h1 h2
  have hl : ((l.drop a.toNat).take n.toNat).length ≤ l.length := by rw [List.length_take, List.length_drop]; omega
  obtain ⟨p1, e1, S1, h3, g1⟩ := (Gr.empty S).app h2.bd (by simp only [List.length_nil]; omega)
  rw [List.nil_append] at h3 g1
  simp only [List.length_nil] at h3
  refine ⟨_, S1, ?_, by rw [cutL, if_pos hk]; exact ⟨p1, e1, none, rfl, g1.by_ (by omega)⟩, g1.ext⟩
  rw [decide_eq_true hk, evF_body (af := af16) rfl rfl rfl]
  rcases p' with _ | ⟨o, v, i⟩
  · have h0 := h2.nil rfl
    rw [h0] at h1 h3 ⊢
    simp only [bv, List.map_nil, List.length_nil] at h3
    simp -implicitDefEqProofs -dsimp (maxSteps := 10000000) only [af16, ops_nil, ops_some, ops_none, oper_none, oper_some, gd_tt, gd_ff, gd_tf, gd_ft, gd_undef, ↓any_op, ↓any_call, ↓any_callV, ↓any_invoke, xo_t, xo_c, args_nil, args_cons, bin_add, bin_sub, bin_mul, bin_quo, bin_rem, bin_and, bin_or, bin_xor, bin_andNot, bin_eql, bin_neq, bin_lss, bin_leq, bin_gtr, bin_geq, bin_shl, bin_shr, bin_bools, bin_strs, bin_ptrs, bin_slices, bin_aggs, ↓Option.bind_some, ↓Option.map_some, ↓cond_true, ↓cond_false, evC, evOp, XO.lit, setArgs, Tr.tabG, Tr.tabS, Tr.tabL, Tr.get_lf, Option.bind_some, Option.map_some, cond_true, cond_false, maxI, maxFrom, minI, minFrom, aConv, aBinE, aEq, eqScal, aUn, evRes, fin, oneOf, if_true, if_false, callee, reduceCtorEq, Nat.reduceEqDiff, and_self, decide_true, decide_false, beq_true, beq_false, Bool.not_true, Bool.not_false, List.getElem?_cons_zero, List.getElem?_cons_succ, beq_self_eq_true, gt_iff_lt, ble_dec, beq_dec, List.head?_cons, AV.undef, eq_self, ne_eq, not_true_eq_false, not_false_eq_true, Int.reduceLT, Int.reduceLE, Int.reduceToNat, Int.reduceEq, Int.reduceNeg, Nat.reduceAdd, Nat.reduceLT, Nat.reduceLeDiff, Nat.reduceMul, Nat.reduceSub, aFill, evParts, rep, List.replicate_succ, List.replicate_zero, List.flatten_cons, List.flatten_nil, List.append_nil, newSl, newVar, c1, c2, c3, c4, hm, w1, w2, evOpt, h1, h3, List.length_nil, Nat.mul_zero]
  · obtain rfl := h2.ez.resolve_left (by simp)
    obtain ⟨h4, h5⟩ := h2.at_ o v i rfl
    have h6 : (S.alloc (.cells [] 0 0 true)).rd o v i ((l.drop a.toNat).take n.toNat).length = some (bv ((l.drop a.toNat).take n.toNat)) := by
      rw [rd_alloc, if_neg (by omega)]; exact h5
    simp -implicitDefEqProofs -dsimp (maxSteps := 10000000) only [af16, ops_nil, ops_some, ops_none, oper_none, oper_some, gd_tt, gd_ff, gd_tf, gd_ft, gd_undef, ↓any_op, ↓any_call, ↓any_callV, ↓any_invoke, xo_t, xo_c, args_nil, args_cons, bin_add, bin_sub, bin_mul, bin_quo, bin_rem, bin_and, bin_or, bin_xor, bin_andNot, bin_eql, bin_neq, bin_lss, bin_leq, bin_gtr, bin_geq, bin_shl, bin_shr, bin_bools, bin_strs, bin_ptrs, bin_slices, bin_aggs, ↓Option.bind_some, ↓Option.map_some, ↓cond_true, ↓cond_false, evC, evOp, XO.lit, setArgs, Tr.tabG, Tr.tabS, Tr.tabL, Tr.get_lf, Option.bind_some, Option.map_some, cond_true, cond_false, maxI, maxFrom, minI, minFrom, aConv, aBinE, aEq, eqScal, aUn, evRes, fin, oneOf, if_true, if_false, callee, reduceCtorEq, Nat.reduceEqDiff, and_self, decide_true, decide_false, beq_true, beq_false, Bool.not_true, Bool.not_false, List.getElem?_cons_zero, List.getElem?_cons_succ, beq_self_eq_true, gt_iff_lt, ble_dec, beq_dec, List.head?_cons, AV.undef, eq_self, ne_eq, not_true_eq_false, not_false_eq_true, Int.reduceLT, Int.reduceLE, Int.reduceToNat, Int.reduceEq, Int.reduceNeg, Nat.reduceAdd, Nat.reduceLT, Nat.reduceLeDiff, Nat.reduceMul, Nat.reduceSub, aFill, evParts, rep, List.replicate_succ, List.replicate_zero, List.flatten_cons, List.flatten_nil, List.append_nil, newSl, newVar, c1, c2, c3, c4, hm, w1, w2, evOpt, h1, h3, h6, Nat.mul_one, Nat.zero_mul]
end
end Go.Proofs.YtgplnlhbloamaaaA
