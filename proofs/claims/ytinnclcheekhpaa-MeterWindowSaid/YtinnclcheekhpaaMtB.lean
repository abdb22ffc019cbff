/- Chapter 16: bytes that come together, or one by one, in a slot, are the same. -/
import Derived.Test.YtinnclcheekhpaaMtA
set_option linter.unusedVariables false
set_option linter.unusedSimpArgs false
set_option maxRecDepth 10000
namespace Go.Proofs.YtinnclcheekhpaaA
open Go.RowKit
attribute [local congr] bind_congr1 map_congr1 cond_congr1 withX_congr after_congr br_congr gd_congr

theorem fu_zf (j : Nat) : fu zf j 0 = zf := by funext i; unfold fu zf; split <;> rfl
theorem fu_fu (f : Nat → Int) (j : Nat) (x y : Int) : fu (fu f j x) j y = fu f j y := by funext i; unfold fu; split <;> rfl
theorem fu_at (f : Nat → Int) (j : Nat) (x : Int) : fu f j x j = x := by unfold fu; rw [if_pos rfl]
theorem clr_zf (a : Int) : ∀ n, clr zf a n = zf
  | 0 => rfl
  | n + 1 => by rw [clr, clr_zf a n, fu_zf]
theorem sat_ok {a b : Int} (h0 : 0 ≤ a) (h1 : 0 ≤ b) (h2 : a + b ≤ 9223372036854775807) : sat a b = a + b := by
  unfold sat
  rw [up_pos h0, up_pos h1]
  unfold mn M63
  split <;> omega
theorem rs_zf (l : Int) : ∀ (n : Nat) (i : Int), rs zf l n i 0 = 0
  | 0, _ => rfl
  | n + 1, i => by
    rw [rs]
    have : (if 0 ≤ i ∧ l - 5 < i then sat 0 (zf (i % 5).toNat) else 0) = 0 := by split <;> rfl
    rw [this]
    exact rs_zf l n (i + 1)
theorem rate_zf (l l' now : Int) : rate zf l now = rate zf l' now := by
  unfold rate
  simp only [rs_zf]
theorem m10 (x : Int) : Go.bits .and .i64 x 1023 = x % 1024 := and_i64 10 (by decide) x
theorem m40 (x : Int) : Go.bits .and .i64 x 1099511627775 = x % 1099511627776 := and_i64 40 (by decide) x
structure P1 (p : Option (Nat × Nat × Nat)) (len : Nat) (at_ : Int) (Sb : St) (n : Nat) (T : Tm) (S : St) : Prop where
  t0 : T.get 0 = some (.slice p len 1 none)
  t5 : T.get 5 = some (pt Sb.next)
  t6 : T.get 6 = some (pt (Sb.next + 1))
  t7 : T.get 7 = some (.int .i64 at_)
  ext : Ext Sb S
  gb : S.get (Sb.next + 1) = some (mt zf 0 0)
  more : ∃ (i s : Int) (fa : Nat → Int) (la : Int), T.get 9 = some (.int .i64 i) ∧ T.get 8 = some (.int .i64 s) ∧ S.get Sb.next = some (mt fa la s) ∧ 0 ≤ i ∧ i ≤ 40 ∧ (n : Int) = 40 - i ∧ 0 ≤ s ∧ s ≤ 1023 * i ∧
    (i = 0 ∧ fa = zf ∧ la = 0 ∧ s = 0 ∨ fa = fu zf (slot at_ % 5).toNat s ∧ la = slot at_)
/-- What an Add in the same slot comes to. -/
theorem add_is {fa : Nat → Int} {la s at_ d : Int} (hb : 0 ≤ slot at_) (d0 : 0 ≤ d) (s0 : 0 ≤ s) (hs : s + d ≤ 9223372036854775807) (h : fa = zf ∧ la = 0 ∧ s = 0 ∨ fa = fu zf (slot at_ % 5).toNat s ∧ la = slot at_) :
    (if la < slot at_ then slot at_ else la) = slot at_ ∧
    mt (fu (clr fa (slot at_) (if 5 < slot at_ - la then 5 else slot at_ - la).toNat) (slot at_ % 5).toNat (sat (clr fa (slot at_) (if 5 < slot at_ - la then 5 else slot at_ - la).toNat (slot at_ % 5).toNat) d)) (slot at_) (sat s d) =
      mt (fu zf (slot at_ % 5).toNat (s + d)) (slot at_) (s + d) := by
  rcases h with ⟨rfl, rfl, rfl⟩ | ⟨rfl, rfl⟩
  · refine ⟨by split <;> omega, ?_⟩
    rw [clr_zf, sat_ok (by decide) d0 hs, show sat (zf (slot at_ % 5).toNat) d = 0 + d from sat_ok (show (0:Int) ≤ 0 by decide) d0 hs]
  · refine ⟨by split <;> omega, ?_⟩
    have h0 : (if 5 < slot at_ - slot at_ then 5 else slot at_ - slot at_).toNat = 0 := by split <;> omega
    rw [h0]
    simp only [clr]
    rw [fu_at, fu_fu, sat_ok s0 d0 hs]
set_option maxHeartbeats 4000000 in
theorem roundP1 (k : Nat) {p : Option (Nat × Nat × Nat)} {len : Nat} {at_ : Int} (ha : I64 at_) {Sb : St} (h : Sl Sb p len [.int .i64]) (n : Nat) (T : Tm) (S : St) (hI : P1 p len at_ Sb n T S) :
    Goes (evF Y AP (k + 99)) (k + 99) af5_l1 T S (Then (fun T' S' => ∃ n', P1 p len at_ Sb n' T' S' ∧ id n' < id n) fun q T' S' => q = .exit 0 ∧ ∃ n', P1 p len at_ Sb n' T' S') := by
  have hm := h.max
  have hb := slot_bd ha.2
  obtain ⟨t0, t5, t6, t7, he, gb, i, s, fa, la, t9, t8, ga, i0, i1, hn, s0, s1, hst⟩ := hI
  by_cases c1 : i < len
  · by_cases c2 : i < 40
    · obtain ⟨o, v, j, rfl, ho⟩ := h.at_ (by omega)
      obtain ⟨z, hz0, wz⟩ := h.int i0 c1
      have hz : S.rd o v (j + i.toNat * 1) 1 = some [.int .i64 z] := by rw [he.rd ho]; exact hz0
      have hix : ixOf (.int .i64 i) len = some i.toNat := ix_ok i0 c1
      obtain ⟨d, hd⟩ : ∃ d, z % 1024 = d := ⟨_, rfl⟩
      have hst' : fa = zf ∧ la = 0 ∧ s = 0 ∨ fa = fu zf (slot at_ % 5).toNat s ∧ la = slot at_ := hst.imp_left fun h => h.2
      have la0 : 0 ≤ la ∧ la ≤ 92233720368547 := by rcases hst' with ⟨_, rfl, _⟩ | ⟨_, rfl⟩ <;> omega
      obtain ⟨ha1, ha2⟩ := add_is (d := d) hb.1 (by omega) s0 (by omega) hst'
      obtain ⟨S2, e9, u2⟩ := T9 (k + 79) ga la0.1 la0.2 (n := d) (by omega) ha (slot at_) ha1
      rw [ha2] at u2
      have e2 : Ext Sb S2 := u2.ext he (Nat.le_refl _)
      have hz2 : S2.rd o v (j + i.toNat * 1) 1 = some [.int .i64 z] := by rw [e2.rd ho]; exact hz0
      have w1 : IntKind.i64.wrap (s + d) = s + d := w64_id (by omega) (by omega)
      have w2 : IntKind.i64.wrap (i + 1) = i + 1 := w64_id (by omega) (by omega)
      simp -implicitDefEqProofs -dsimp (maxSteps := 10000000) only [af5_l1, ↓goes_loop, ↓goes_seq, ↓goes_reg, ↓goes_dreg, ↓goes_preg, ↓goes_cond, ↓goes_block, ↓goes_skip, ↓goes_exit, ↓goes_ret, after_some, br_true, br_false, ↓then_normal, ↓then_exit, ↓then_ret, ↓blk_normal, ↓blk_exit, ↓blk_ret, ↓blk_other, ops_nil, ops_some, ops_none, oper_none, oper_some, gd_tt, gd_ff, gd_tf, gd_ft, gd_undef, ↓any_op, ↓any_call, ↓any_callV, ↓any_invoke, xo_t, xo_c, args_nil, args_cons, bin_add, bin_sub, bin_mul, bin_quo, bin_rem, bin_and, bin_or, bin_xor, bin_andNot, bin_eql, bin_neq, bin_lss, bin_leq, bin_gtr, bin_geq, bin_shl, bin_shr, bin_bools, bin_strs, bin_ptrs, bin_slices, bin_aggs, ↓Option.bind_some, ↓Option.map_some, ↓cond_true, ↓cond_false, evC, evOp, XO.lit, setArgs, Tr.get_set, Option.bind_some, Option.map_some, cond_true, cond_false, maxI, maxFrom, minI, minFrom, aConv, aBinE, aEq, eqScal, aUn, evRes, fin, oneOf, if_true, if_false, callee, reduceCtorEq, Nat.reduceEqDiff, and_self, decide_true, decide_false, beq_true, beq_false, Bool.not_true, Bool.not_false, List.getElem?_cons_zero, List.getElem?_cons_succ, beq_self_eq_true, gt_iff_lt, ble_dec, beq_dec, List.head?_cons, AV.undef, eq_self, ne_eq, not_true_eq_false, not_false_eq_true, Int.reduceLT, Int.reduceLE, Int.reduceToNat, Int.reduceEq, Int.reduceNeg, Nat.reduceAdd, Nat.reduceLT, Nat.reduceLeDiff, Nat.reduceMul, Nat.reduceSub, AV.cells, AV.tup, Bool.true_and, true_and, and_true, List.drop_nil, List.append_nil, rd_put, rd_alloc, rdO, St.get_put, St.get_alloc, St.next_put, St.next_alloc, St.wr, Bool.and_self, Bool.and_true, List.length_cons, List.length_nil, List.take_succ_cons, List.take_zero, List.drop_succ_cons, List.drop_zero, List.cons_append, List.nil_append, Nat.zero_add, Nat.add_zero, Nat.reduceMul, t0, t5, t7, t8, t9, c1, c2, hm, hix, hz, hz2, m10, hd, e9, w1, w2]
      refine ⟨n - 1, ⟨?_, ?_, ?_, ?_, e2, ?_, i + 1, s + d, _, _, ?_, ?_, u2.same, by omega, by omega, by omega, by omega, by omega, .inr ⟨rfl, rfl⟩⟩, by simp only [id]; omega⟩
      rotate_left 4
      · rw [u2.else (by omega)]; exact gb
      all_goals simp only [Tr.get_set, Nat.reduceEqDiff, if_false, if_true, t0, t5, t6, t7]
    · simp -implicitDefEqProofs -dsimp (maxSteps := 10000000) only [af5_l1, ↓goes_loop, ↓goes_seq, ↓goes_reg, ↓goes_dreg, ↓goes_preg, ↓goes_cond, ↓goes_block, ↓goes_skip, ↓goes_exit, ↓goes_ret, after_some, br_true, br_false, ↓then_normal, ↓then_exit, ↓then_ret, ↓blk_normal, ↓blk_exit, ↓blk_ret, ↓blk_other, ops_nil, ops_some, ops_none, oper_none, oper_some, gd_tt, gd_ff, gd_tf, gd_ft, gd_undef, ↓any_op, ↓any_call, ↓any_callV, ↓any_invoke, xo_t, xo_c, args_nil, args_cons, bin_add, bin_sub, bin_mul, bin_quo, bin_rem, bin_and, bin_or, bin_xor, bin_andNot, bin_eql, bin_neq, bin_lss, bin_leq, bin_gtr, bin_geq, bin_shl, bin_shr, bin_bools, bin_strs, bin_ptrs, bin_slices, bin_aggs, ↓Option.bind_some, ↓Option.map_some, ↓cond_true, ↓cond_false, evC, evOp, XO.lit, setArgs, Tr.get_set, Option.bind_some, Option.map_some, cond_true, cond_false, maxI, maxFrom, minI, minFrom, aConv, aBinE, aEq, eqScal, aUn, evRes, fin, oneOf, if_true, if_false, callee, reduceCtorEq, Nat.reduceEqDiff, and_self, decide_true, decide_false, beq_true, beq_false, Bool.not_true, Bool.not_false, List.getElem?_cons_zero, List.getElem?_cons_succ, beq_self_eq_true, gt_iff_lt, ble_dec, beq_dec, List.head?_cons, AV.undef, eq_self, ne_eq, not_true_eq_false, not_false_eq_true, Int.reduceLT, Int.reduceLE, Int.reduceToNat, Int.reduceEq, Int.reduceNeg, Nat.reduceAdd, Nat.reduceLT, Nat.reduceLeDiff, Nat.reduceMul, Nat.reduceSub, AV.cells, AV.tup, Bool.true_and, true_and, and_true, List.drop_nil, List.append_nil, rd_put, rd_alloc, rdO, St.get_put, St.get_alloc, St.next_put, St.next_alloc, St.wr, Bool.and_self, Bool.and_true, List.length_cons, List.length_nil, List.take_succ_cons, List.take_zero, List.drop_succ_cons, List.drop_zero, List.cons_append, List.nil_append, Nat.zero_add, Nat.add_zero, Nat.reduceMul, t0, t9, c1, c2, hm]
      refine ⟨n, ?_, ?_, ?_, ?_, he, gb, i, s, fa, la, ?_, ?_, ga, i0, i1, hn, s0, s1, hst⟩ <;>
        simp only [Tr.get_set, Nat.reduceEqDiff, if_false, if_true, t0, t5, t6, t7, t8, t9]
  · simp -implicitDefEqProofs -dsimp (maxSteps := 10000000) only [af5_l1, ↓goes_loop, ↓goes_seq, ↓goes_reg, ↓goes_dreg, ↓goes_preg, ↓goes_cond, ↓goes_block, ↓goes_skip, ↓goes_exit, ↓goes_ret, after_some, br_true, br_false, ↓then_normal, ↓then_exit, ↓then_ret, ↓blk_normal, ↓blk_exit, ↓blk_ret, ↓blk_other, ops_nil, ops_some, ops_none, oper_none, oper_some, gd_tt, gd_ff, gd_tf, gd_ft, gd_undef, ↓any_op, ↓any_call, ↓any_callV, ↓any_invoke, xo_t, xo_c, args_nil, args_cons, bin_add, bin_sub, bin_mul, bin_quo, bin_rem, bin_and, bin_or, bin_xor, bin_andNot, bin_eql, bin_neq, bin_lss, bin_leq, bin_gtr, bin_geq, bin_shl, bin_shr, bin_bools, bin_strs, bin_ptrs, bin_slices, bin_aggs, ↓Option.bind_some, ↓Option.map_some, ↓cond_true, ↓cond_false, evC, evOp, XO.lit, setArgs, Tr.get_set, Option.bind_some, Option.map_some, cond_true, cond_false, maxI, maxFrom, minI, minFrom, aConv, aBinE, aEq, eqScal, aUn, evRes, fin, oneOf, if_true, if_false, callee, reduceCtorEq, Nat.reduceEqDiff, and_self, decide_true, decide_false, beq_true, beq_false, Bool.not_true, Bool.not_false, List.getElem?_cons_zero, List.getElem?_cons_succ, beq_self_eq_true, gt_iff_lt, ble_dec, beq_dec, List.head?_cons, AV.undef, eq_self, ne_eq, not_true_eq_false, not_false_eq_true, Int.reduceLT, Int.reduceLE, Int.reduceToNat, Int.reduceEq, Int.reduceNeg, Nat.reduceAdd, Nat.reduceLT, Nat.reduceLeDiff, Nat.reduceMul, Nat.reduceSub, AV.cells, AV.tup, Bool.true_and, true_and, and_true, List.drop_nil, List.append_nil, rd_put, rd_alloc, rdO, St.get_put, St.get_alloc, St.next_put, St.next_alloc, St.wr, Bool.and_self, Bool.and_true, List.length_cons, List.length_nil, List.take_succ_cons, List.take_zero, List.drop_succ_cons, List.drop_zero, List.cons_append, List.nil_append, Nat.zero_add, Nat.add_zero, Nat.reduceMul, t0, t9, c1, hm]
    refine ⟨n, ?_, ?_, ?_, ?_, he, gb, i, s, fa, la, ?_, ?_, ga, i0, i1, hn, s0, s1, hst⟩ <;>
      simp only [Tr.get_set, Nat.reduceEqDiff, if_false, if_true, t0, t5, t6, t7, t8, t9]
structure P0 (at_ s : Int) (o : Nat) (Sb : St) (n : Nat) (T : Tm) (S : St) : Prop where
  t5 : T.get 5 = some (pt o)
  t6 : T.get 6 = some (pt (o + 1))
  t7 : T.get 7 = some (.int .i64 at_)
  t8 : T.get 8 = some (.int .i64 s)
  st : S = Sb
  more : ∃ i : Int, T.get 10 = some (.int .i64 i) ∧ 0 ≤ i ∧ i ≤ 7 ∧ (n : Int) = 7 - i
set_option maxHeartbeats 4000000 in
theorem roundP0 (k : Nat) {at_ s : Int} (ha : 0 ≤ at_ ∧ at_ < 1099511627776) {o : Nat} {Sb : St} {fa fb : Nat → Int} {la lb t t' : Int} (ga : Sb.get o = some (mt fa la t)) (gb : Sb.get (o + 1) = some (mt fb lb t')) (la0 : 0 ≤ la ∧ la ≤ 92233720368547) (lb0 : 0 ≤ lb ∧ lb ≤ 92233720368547)
    (hr : ∀ now, rate fa la now = rate fb lb now) (n : Nat) (T : Tm) (S : St) (hI : P0 at_ s o Sb n T S) :
    Goes (evF Y AP (k + 99)) (k + 99) af5_l0 T S (Then (fun T' S' => ∃ n', P0 at_ s o Sb n' T' S' ∧ id n' < id n) fun q T' S' => q = .exit 2 ∧ ∃ n', P0 at_ s o Sb n' T' S') := by
  obtain ⟨t5, t6, t7, t8, rfl, i, t10, i0, i1, hn⟩ := hI
  by_cases c1 : i < 7
  · have w1 : IntKind.i64.wrap (i * 100000) = i * 100000 := w64_id (by omega) (by omega)
    have w2 : IntKind.i64.wrap (at_ + i * 100000) = at_ + i * 100000 := w64_id (by omega) (by omega)
    have w3 : IntKind.i64.wrap (i + 1) = i + 1 := w64_id (by omega) (by omega)
    have e1 := T10 (k + 79) ga la0.1 la0.2 (now := at_ + i * 100000) ⟨by omega, by omega⟩
    have e2 := T10 (k + 79) gb lb0.1 lb0.2 (now := at_ + i * 100000) ⟨by omega, by omega⟩
    rw [hr] at e1
    simp -implicitDefEqProofs -dsimp (maxSteps := 10000000) only [af5_l0, ↓goes_loop, ↓goes_seq, ↓goes_reg, ↓goes_dreg, ↓goes_preg, ↓goes_cond, ↓goes_block, ↓goes_skip, ↓goes_exit, ↓goes_ret, after_some, br_true, br_false, ↓then_normal, ↓then_exit, ↓then_ret, ↓blk_normal, ↓blk_exit, ↓blk_ret, ↓blk_other, ops_nil, ops_some, ops_none, oper_none, oper_some, gd_tt, gd_ff, gd_tf, gd_ft, gd_undef, ↓any_op, ↓any_call, ↓any_callV, ↓any_invoke, xo_t, xo_c, args_nil, args_cons, bin_add, bin_sub, bin_mul, bin_quo, bin_rem, bin_and, bin_or, bin_xor, bin_andNot, bin_eql, bin_neq, bin_lss, bin_leq, bin_gtr, bin_geq, bin_shl, bin_shr, bin_bools, bin_strs, bin_ptrs, bin_slices, bin_aggs, ↓Option.bind_some, ↓Option.map_some, ↓cond_true, ↓cond_false, evC, evOp, XO.lit, setArgs, Tr.get_set, Option.bind_some, Option.map_some, cond_true, cond_false, maxI, maxFrom, minI, minFrom, aConv, aBinE, aEq, eqScal, aUn, evRes, fin, oneOf, if_true, if_false, callee, reduceCtorEq, Nat.reduceEqDiff, and_self, decide_true, decide_false, beq_true, beq_false, Bool.not_true, Bool.not_false, List.getElem?_cons_zero, List.getElem?_cons_succ, beq_self_eq_true, gt_iff_lt, ble_dec, beq_dec, List.head?_cons, AV.undef, eq_self, ne_eq, not_true_eq_false, not_false_eq_true, Int.reduceLT, Int.reduceLE, Int.reduceToNat, Int.reduceEq, Int.reduceNeg, Nat.reduceAdd, Nat.reduceLT, Nat.reduceLeDiff, Nat.reduceMul, Nat.reduceSub, AV.cells, AV.tup, Bool.true_and, true_and, and_true, List.drop_nil, List.append_nil, rd_put, rd_alloc, rdO, St.get_put, St.get_alloc, St.next_put, St.next_alloc, St.wr, Bool.and_self, Bool.and_true, List.length_cons, List.length_nil, List.take_succ_cons, List.take_zero, List.drop_succ_cons, List.drop_zero, List.cons_append, List.nil_append, Nat.zero_add, Nat.add_zero, Nat.reduceMul, t5, t6, t7, t10, c1, w1, w2, w3, e1, e2]
    refine ⟨n - 1, ⟨?_, ?_, ?_, ?_, rfl, i + 1, ?_, by omega, by omega, by omega⟩, by simp only [id]; omega⟩ <;>
      simp only [Tr.get_set, Nat.reduceEqDiff, if_false, if_true, t5, t6, t7, t8]
  · simp -implicitDefEqProofs -dsimp (maxSteps := 10000000) only [af5_l0, ↓goes_loop, ↓goes_seq, ↓goes_reg, ↓goes_dreg, ↓goes_preg, ↓goes_cond, ↓goes_block, ↓goes_skip, ↓goes_exit, ↓goes_ret, after_some, br_true, br_false, ↓then_normal, ↓then_exit, ↓then_ret, ↓blk_normal, ↓blk_exit, ↓blk_ret, ↓blk_other, ops_nil, ops_some, ops_none, oper_none, oper_some, gd_tt, gd_ff, gd_tf, gd_ft, gd_undef, ↓any_op, ↓any_call, ↓any_callV, ↓any_invoke, xo_t, xo_c, args_nil, args_cons, bin_add, bin_sub, bin_mul, bin_quo, bin_rem, bin_and, bin_or, bin_xor, bin_andNot, bin_eql, bin_neq, bin_lss, bin_leq, bin_gtr, bin_geq, bin_shl, bin_shr, bin_bools, bin_strs, bin_ptrs, bin_slices, bin_aggs, ↓Option.bind_some, ↓Option.map_some, ↓cond_true, ↓cond_false, evC, evOp, XO.lit, setArgs, Tr.get_set, Option.bind_some, Option.map_some, cond_true, cond_false, maxI, maxFrom, minI, minFrom, aConv, aBinE, aEq, eqScal, aUn, evRes, fin, oneOf, if_true, if_false, callee, reduceCtorEq, Nat.reduceEqDiff, and_self, decide_true, decide_false, beq_true, beq_false, Bool.not_true, Bool.not_false, List.getElem?_cons_zero, List.getElem?_cons_succ, beq_self_eq_true, gt_iff_lt, ble_dec, beq_dec, List.head?_cons, AV.undef, eq_self, ne_eq, not_true_eq_false, not_false_eq_true, Int.reduceLT, Int.reduceLE, Int.reduceToNat, Int.reduceEq, Int.reduceNeg, Nat.reduceAdd, Nat.reduceLT, Nat.reduceLeDiff, Nat.reduceMul, Nat.reduceSub, AV.cells, AV.tup, Bool.true_and, true_and, and_true, List.drop_nil, List.append_nil, rd_put, rd_alloc, rdO, St.get_put, St.get_alloc, St.next_put, St.next_alloc, St.wr, Bool.and_self, Bool.and_true, List.length_cons, List.length_nil, List.take_succ_cons, List.take_zero, List.drop_succ_cons, List.drop_zero, List.cons_append, List.nil_append, Nat.zero_add, Nat.add_zero, Nat.reduceMul, t10, c1]
    refine ⟨n, ?_, ?_, ?_, ?_, rfl, i, ?_, i0, i1, hn⟩ <;>
      simp only [Tr.get_set, Nat.reduceEqDiff, if_false, if_true, t5, t6, t7, t8, t10]
set_option maxHeartbeats 4000000 in
theorem ev5 (k : Nat) (b : Int) {p : Option (Nat × Nat × Nat)} {len : Nat} {S : St} (h : Sl S p len [.int .i64]) :
    ∃ S', evF Y AP (k + 100) 5 [.slice p len 1 none, .int .i64 b] S = some (.bool true, S') := by
  suffices hs : ∃ v S', evF Y AP (k + 100) 5 [.slice p len 1 none, .int .i64 b] S = some (v, S') ∧ v = .bool true by
    obtain ⟨v, S', h1, rfl⟩ := hs; exact ⟨S', h1⟩
  obtain ⟨a, ha⟩ : ∃ a, b % 1099511627776 = a := ⟨_, rfl⟩
  have ha0 : 0 ≤ a ∧ a < 1099511627776 := by omega
  have hai : I64 a := ⟨by omega, by omega⟩
  have hsb := slot_bd hai.2
  refine evF_goes (af := af5) (k := k + 99) rfl rfl rfl ?_
  simp -implicitDefEqProofs -dsimp (maxSteps := 10000000) only [af5, ↓goes_loop, ↓goes_seq, ↓goes_reg, ↓goes_dreg, ↓goes_preg, ↓goes_cond, ↓goes_block, ↓goes_skip, ↓goes_exit, ↓goes_ret, after_some, br_true, br_false, ↓then_normal, ↓then_exit, ↓then_ret, ↓blk_normal, ↓blk_exit, ↓blk_ret, ↓blk_other, ops_nil, ops_some, ops_none, oper_none, oper_some, gd_tt, gd_ff, gd_tf, gd_ft, gd_undef, ↓any_op, ↓any_call, ↓any_callV, ↓any_invoke, xo_t, xo_c, args_nil, args_cons, bin_add, bin_sub, bin_mul, bin_quo, bin_rem, bin_and, bin_or, bin_xor, bin_andNot, bin_eql, bin_neq, bin_lss, bin_leq, bin_gtr, bin_geq, bin_shl, bin_shr, bin_bools, bin_strs, bin_ptrs, bin_slices, bin_aggs, ↓Option.bind_some, ↓Option.map_some, ↓cond_true, ↓cond_false, evC, evOp, XO.lit, setArgs, Tr.tabG, Tr.tabS, Tr.tabL, Tr.get_lf, Option.bind_some, Option.map_some, cond_true, cond_false, maxI, maxFrom, minI, minFrom, aConv, aBinE, aEq, eqScal, aUn, evRes, fin, oneOf, if_true, if_false, callee, reduceCtorEq, Nat.reduceEqDiff, and_self, decide_true, decide_false, beq_true, beq_false, Bool.not_true, Bool.not_false, List.getElem?_cons_zero, List.getElem?_cons_succ, beq_self_eq_true, gt_iff_lt, ble_dec, beq_dec, List.head?_cons, AV.undef, eq_self, ne_eq, not_true_eq_false, not_false_eq_true, Int.reduceLT, Int.reduceLE, Int.reduceToNat, Int.reduceEq, Int.reduceNeg, Nat.reduceAdd, Nat.reduceLT, Nat.reduceLeDiff, Nat.reduceMul, Nat.reduceSub, AV.cells, AV.tup, Bool.true_and, true_and, and_true, List.drop_nil, List.append_nil, rd_put, rd_alloc, rdO, St.get_put, St.get_alloc, St.next_put, St.next_alloc, St.wr, Bool.and_self, Bool.and_true, List.length_cons, List.length_nil, List.take_succ_cons, List.take_zero, List.drop_succ_cons, List.drop_zero, List.cons_append, List.nil_append, Nat.zero_add, Nat.add_zero, Nat.reduceMul, m40, ha, T8, aBinE, aEq, Option.isNone_some]
  refine .while (P1 p len a S) id 40 ?_ (by show 40 < k + 99; omega) fun n2 T2 S2 h2 => (roundP1 k hai h n2 T2 S2 h2).mono ?_
  · refine ⟨rfl, rfl, rfl, rfl, (Ext.alloc _ _).then_alloc _, ?_, 0, 0, zf, 0, rfl, rfl, ?_, by decide, by decide, rfl, by decide, by decide, .inl ⟨rfl, rfl, rfl, rfl⟩⟩
    · rw [St.get_alloc, if_pos (by rw [St.next_alloc])]
    · rw [St.get_alloc, if_neg (by rw [St.next_alloc]; omega), St.get_alloc, if_pos rfl]
  · intro q T' S' hr'
    cases q with
    | normal => exact hr'
    | ret => exact absurd hr'.1 (by intro h; cases h)
    | exit id =>
      obtain ⟨hid, n', t0, t5, t6, t7, he, gb, i, s, fa, la, t9, t8, ga, i0, i1, hn, s0, s1, hst⟩ := hr'
      cases hid
      obtain ⟨hb1, hb2⟩ := add_is (fa := zf) (la := 0) (s := 0) (at_ := a) (d := s) hsb.1 s0 (by decide) (by omega) (.inl ⟨rfl, rfl, rfl⟩)
      obtain ⟨S2, e9, u2⟩ := T9 (k + 79) gb (by decide) (by decide) (n := s) s0 hai (slot a) hb1
      rw [hb2, Int.zero_add] at u2
      have ga2 : S2.get S.next = some (mt fa la s) := by rw [u2.else (by omega)]; exact ga
      have la0 : 0 ≤ la ∧ la ≤ 92233720368547 := by rcases hst with ⟨_, _, rfl, _⟩ | ⟨_, rfl⟩ <;> omega
      have hrt : ∀ now, rate fa la now = rate (fu zf (slot a % 5).toNat s) (slot a) now := by
        intro now
        rcases hst with ⟨_, rfl, rfl, rfl⟩ | ⟨rfl, rfl⟩
        · rw [fu_zf]; exact rate_zf _ _ _
        · rfl
      simp -implicitDefEqProofs -dsimp (maxSteps := 10000000) only [↓goes_loop, ↓goes_seq, ↓goes_reg, ↓goes_dreg, ↓goes_preg, ↓goes_cond, ↓goes_block, ↓goes_skip, ↓goes_exit, ↓goes_ret, after_some, br_true, br_false, ↓then_normal, ↓then_exit, ↓then_ret, ↓blk_normal, ↓blk_exit, ↓blk_ret, ↓blk_other, ops_nil, ops_some, ops_none, oper_none, oper_some, gd_tt, gd_ff, gd_tf, gd_ft, gd_undef, ↓any_op, ↓any_call, ↓any_callV, ↓any_invoke, xo_t, xo_c, args_nil, args_cons, bin_add, bin_sub, bin_mul, bin_quo, bin_rem, bin_and, bin_or, bin_xor, bin_andNot, bin_eql, bin_neq, bin_lss, bin_leq, bin_gtr, bin_geq, bin_shl, bin_shr, bin_bools, bin_strs, bin_ptrs, bin_slices, bin_aggs, ↓Option.bind_some, ↓Option.map_some, ↓cond_true, ↓cond_false, evC, evOp, XO.lit, setArgs, Tr.get_set, Option.bind_some, Option.map_some, cond_true, cond_false, maxI, maxFrom, minI, minFrom, aConv, aBinE, aEq, eqScal, aUn, evRes, fin, oneOf, if_true, if_false, callee, reduceCtorEq, Nat.reduceEqDiff, and_self, decide_true, decide_false, beq_true, beq_false, Bool.not_true, Bool.not_false, List.getElem?_cons_zero, List.getElem?_cons_succ, beq_self_eq_true, gt_iff_lt, ble_dec, beq_dec, List.head?_cons, AV.undef, eq_self, ne_eq, not_true_eq_false, not_false_eq_true, Int.reduceLT, Int.reduceLE, Int.reduceToNat, Int.reduceEq, Int.reduceNeg, Nat.reduceAdd, Nat.reduceLT, Nat.reduceLeDiff, Nat.reduceMul, Nat.reduceSub, AV.cells, AV.tup, Bool.true_and, true_and, and_true, List.drop_nil, List.append_nil, rd_put, rd_alloc, rdO, St.get_put, St.get_alloc, St.next_put, St.next_alloc, St.wr, Bool.and_self, Bool.and_true, List.length_cons, List.length_nil, List.take_succ_cons, List.take_zero, List.drop_succ_cons, List.drop_zero, List.cons_append, List.nil_append, Nat.zero_add, Nat.add_zero, Nat.reduceMul, t6, t7, t8, e9]
      refine .while (P0 a s S.next S2) _root_.id 7 ?_ (by show 7 < k + 99; omega) fun n2 T2 S3 h2 => (roundP0 k ha0 ga2 u2.same la0 hsb hrt n2 T2 S3 h2).mono ?_
      · refine ⟨?_, ?_, ?_, ?_, rfl, 0, ?_, by decide, by decide, rfl⟩ <;>
          simp only [Tr.get_set, Nat.reduceEqDiff, if_false, if_true, t5, t6, t7, t8]
      · intro q T' S' hr'
        cases q with
        | normal => exact hr'
        | ret => exact absurd hr'.1 (by intro h; cases h)
        | exit id =>
          obtain ⟨hid, n', t5, t6, t7, t8, rfl, _⟩ := hr'
          cases hid
          have f1 := T12 (k + 95) ga2
          have f2 := T12 (k + 95) u2.same
          simp -implicitDefEqProofs -dsimp (maxSteps := 10000000) only [↓goes_loop, ↓goes_seq, ↓goes_reg, ↓goes_dreg, ↓goes_preg, ↓goes_cond, ↓goes_block, ↓goes_skip, ↓goes_exit, ↓goes_ret, after_some, br_true, br_false, ↓then_normal, ↓then_exit, ↓then_ret, ↓blk_normal, ↓blk_exit, ↓blk_ret, ↓blk_other, ops_nil, ops_some, ops_none, oper_none, oper_some, gd_tt, gd_ff, gd_tf, gd_ft, gd_undef, ↓any_op, ↓any_call, ↓any_callV, ↓any_invoke, xo_t, xo_c, args_nil, args_cons, bin_add, bin_sub, bin_mul, bin_quo, bin_rem, bin_and, bin_or, bin_xor, bin_andNot, bin_eql, bin_neq, bin_lss, bin_leq, bin_gtr, bin_geq, bin_shl, bin_shr, bin_bools, bin_strs, bin_ptrs, bin_slices, bin_aggs, ↓Option.bind_some, ↓Option.map_some, ↓cond_true, ↓cond_false, evC, evOp, XO.lit, setArgs, Tr.get_set, Option.bind_some, Option.map_some, cond_true, cond_false, maxI, maxFrom, minI, minFrom, aConv, aBinE, aEq, eqScal, aUn, evRes, fin, oneOf, if_true, if_false, callee, reduceCtorEq, Nat.reduceEqDiff, and_self, decide_true, decide_false, beq_true, beq_false, Bool.not_true, Bool.not_false, List.getElem?_cons_zero, List.getElem?_cons_succ, beq_self_eq_true, gt_iff_lt, ble_dec, beq_dec, List.head?_cons, AV.undef, eq_self, ne_eq, not_true_eq_false, not_false_eq_true, Int.reduceLT, Int.reduceLE, Int.reduceToNat, Int.reduceEq, Int.reduceNeg, Nat.reduceAdd, Nat.reduceLT, Nat.reduceLeDiff, Nat.reduceMul, Nat.reduceSub, AV.cells, AV.tup, Bool.true_and, true_and, and_true, List.drop_nil, List.append_nil, rd_put, rd_alloc, rdO, St.get_put, St.get_alloc, St.next_put, St.next_alloc, St.wr, Bool.and_self, Bool.and_true, List.length_cons, List.length_nil, List.take_succ_cons, List.take_zero, List.drop_succ_cons, List.drop_zero, List.cons_append, List.nil_append, Nat.zero_add, Nat.add_zero, Nat.reduceMul, t5, t6, t8, f1, f2, y7]
          exact ⟨_, _, rfl, rfl⟩
theorem law5 {b : Int} {p : Option (Nat × Nat × Nat)} {len : Nat} {xs : List AV} (h : Arg p 0 len [.int .i64] xs) (_ : (Lit.int .i64 b).wf = true) :
    ∃ S', evF Y AP (0 + 100) 5 [.slice p len 1 none, .int .i64 b] (S0.alloc (.cells xs 0 0 false)) = some (.bool true, S') :=
  ev5 0 b (.of_arg h rfl (by show 0 < 1; decide))
end Go.Proofs.YtinnclcheekhpaaA
