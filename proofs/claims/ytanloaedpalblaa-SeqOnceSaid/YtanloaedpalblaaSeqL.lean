/- Chapter 15: what is seen is seen once: the walk. -/
import Derived.Test.YtanloaedpalblaaSeqK
set_option linter.unusedVariables false
set_option linter.unusedSimpArgs false
set_option maxRecDepth 10000
namespace Go.Proofs.YtanloaedpalblaaA
open Go.RowKit
attribute [local congr] bind_congr1 map_congr1 cond_congr1 withX_congr after_congr br_congr gd_congr

theorem mask7 (x : Int) : Go.bits .and .i64 x 7 = x % 8 := and_i64 3 (by decide) x
theorem mask14 (x : Int) : Go.bits .and .u16 x 16383 = x % 16384 := and_u16 14 (by decide) x
abbrev mpt (m : Nat) : AV := .map (some m)
structure I6 (p : Option (Nat × Nat × Nat)) (len : Nat) (Sb : St) (first : Int) (a : Nat) (T : Tm) (S : St) : Prop where
  t1 : T.get 1 = some (.slice p len 1 none)
  t5 : T.get 5 = some (pt Sb.next)
  t6 : T.get 6 = some (mpt (Sb.next + 1))
  t7 : T.get 7 = some (.int .i64 first)
  ext : Ext Sb S
  more : ∃ (s : Sn) (K : List Int) (l : List (Int × Int × Nat)) (c : Nat) (i at_ : Int), T.get 8 = some (.int .i64 at_) ∧ T.get 9 = some (.int .i64 s.l) ∧ T.get 10 = some (.int .i64 i) ∧
    S.get Sb.next = some (sn s) ∧ S.get (Sb.next + 1) = some (.map .i64 .i64 l c) ∧ Mp K l ∧ Kn s K ∧ Good i.toNat s ∧ 0 ≤ i ∧ i ≤ 100 ∧ (a : Int) = 100 - i ∧
    first - 2 * i ≤ at_ ∧ at_ ≤ first + 5 * i ∧ (i = 0 → s.l < 0) ∧ (0 < i → s.f = first ∧ first ≤ s.l ∧ s.l ≤ first + 5 * i) ∧ (K.length : Int) ≤ i
structure I7 (o : Nat) (first top : Int) (K : List Int) (Sb : St) (a : Nat) (T : Tm) (S : St) : Prop where
  st : S = Sb
  t5 : T.get 5 = some (pt o)
  t6 : T.get 6 = some (mpt (o + 1))
  t9 : T.get 9 = some (.int .i64 top)
  more : ∃ n : Int, T.get 14 = some (.int .i64 n) ∧ T.get 13 = some (.int .i64 (n - first - cnt K first n)) ∧ first ≤ n ∧ n ≤ top + 1 ∧ (a : Int) = top + 1 - n
theorem ext_near {s : Sn} {first y : Int} (h0 : 40000 ≤ first) (h1 : first < 56384) (hl : s.l < 0 ∨ (first ≤ s.l ∧ s.l ≤ first + 500)) (hy : first - 300 ≤ y) (hy' : y ≤ first + 600) : Go.Proofs.YtanloaedpalblaaA.ext 65536 s.l (y % 65536) = y := by
  rcases hl with hl | hl
  · unfold Go.Proofs.YtanloaedpalblaaA.ext; rw [if_pos hl]; omega
  · exact ext16 (by omega) (by omega) (by omega) (by omega) (by omega)
set_option maxHeartbeats 4000000 in
theorem round6 (k : Nat) {p : Option (Nat × Nat × Nat)} {len : Nat} {Sb : St} {first : Int} (h : Sl Sb p len [.int .i64]) (hf0 : 40000 ≤ first) (hf1 : first < 56384) (a : Nat) (T : Tm) (S : St) (hI : I6 p len Sb first a T S) :
    Goes (evF X6 AP (k + 999)) (k + 999) af6_l1 T S (Then (fun T' S' => ∃ a', I6 p len Sb first a' T' S' ∧ id a' < id a) fun r T' S' => r = .exit 0 ∧ ∃ a', I6 p len Sb first a' T' S') := by
  have hm := h.max
  have hI' := hI
  obtain ⟨t1, t5, t6, t7, he, s, K, l, c, i, at_, t8, t9, t10, hs, hmp, mp, kn, g, i0, i1, ha, b0, b1, z0, z1, kl⟩ := hI
  by_cases cc : i < len ∧ i < 100
  · obtain ⟨c1, c2⟩ := cc
    obtain ⟨ob, v, j, rfl, hob⟩ := h.at_ (by omega)
    obtain ⟨z, hz0, wz⟩ := h.int i0 c1
    have hz : S.rd ob v (j + i.toNat * 1) 1 = some [.int .i64 z] := by rw [he.rd hob]; exact hz0
    have hix : ixOf (.int .i64 i) len = some i.toNat := ix_ok i0 c1
    have w1 : IntKind.i64.wrap (at_ + z % 8) = at_ + z % 8 := w64_id (by omega) (by omega)
    have w2 : IntKind.i64.wrap (at_ + z % 8 - 2) = at_ + z % 8 - 2 := w64_id (by omega) (by omega)
    have w3 : IntKind.i64.wrap (i + 1) = i + 1 := w64_id (by omega) (by omega)
    have hll : s.l < 0 ∨ (first ≤ s.l ∧ s.l ≤ first + 500) := by
      by_cases q : 0 < i
      · have := z1 q; omega
      · exact .inl (z0 (by omega))
    have gl : I64 s.l := g.i64
    have nl := g.none_
    have w4 : IntKind.i64.wrap (s.l - 64) = s.l - 64 := w64_id (by omega) (by omega)
    have w5 : IntKind.i64.wrap (0 + 1) = 1 := by decide
    have few := g.few
    by_cases q : 0 < i
    · obtain ⟨y, hy⟩ : ∃ y, at_ + z % 8 - 2 = y := ⟨_, rfl⟩
      rw [hy] at w2
      have y0 : first - 2 * (i + 1) ≤ y := by omega
      have y1 : y ≤ first + 5 * (i + 1) := by omega
      have hx : Go.Proofs.YtanloaedpalblaaA.ext 65536 s.l (y % 65536) = y := ext_near hf0 hf1 hll (by omega) (by omega)
      obtain ⟨S2, e14, u2⟩ := T14 (S := S) (n := y % 65536) (k + 995) g (by omega) (by omega) (by omega) hs
      have g' := add_good g (by omega) (by omega) (by omega) (n := y % 65536)
      rw [hx] at e14 u2 g'
      have hx2 : Ext Sb S2 := u2.ext he (Nat.le_refl _)
      have hs2 : S2.get Sb.next = some (sn (addS s y)) := u2.same
      have hm2 : S2.get (Sb.next + 1) = some (.map .i64 .i64 l c) := by rw [u2.else (by omega)]; exact hmp
      have ok := kn.ok g (x := y) (by omega)
      have lk := mp.look y
      by_cases hb : addB s y = true
      · obtain ⟨o1, o2⟩ := ok.1 hb
        rw [if_neg o1] at lk
        obtain ⟨kn2, l2, f2⟩ := kn.add g (by omega) hb
        obtain ⟨pm, mp2⟩ := mp.add o1 c
        rw [hb] at e14
        simp -implicitDefEqProofs -dsimp (maxSteps := 10000000) only [af6_l1, ↓goes_loop, ↓goes_seq, ↓goes_reg, ↓goes_dreg, ↓goes_cond, ↓goes_block, ↓goes_skip, ↓goes_exit, ↓goes_ret, after_some, br_true, br_false, ↓then_normal, ↓then_exit, ↓then_ret, ↓blk_normal, ↓blk_exit, ↓blk_ret, ↓blk_other, ops_nil, ops_some, ops_none, oper_none, oper_some, gd_tt, gd_ff, gd_tf, gd_ft, gd_undef, ↓any_op, ↓any_call, ↓any_callV, ↓any_invoke, xo_t, xo_c, args_nil, args_cons, bin_add, bin_sub, bin_mul, bin_quo, bin_rem, bin_and, bin_or, bin_xor, bin_andNot, bin_eql, bin_neq, bin_lss, bin_leq, bin_gtr, bin_geq, bin_shl, bin_shr, bin_bools, bin_strs, bin_ptrs, bin_slices, bin_aggs, ↓Option.bind_some, ↓Option.map_some, ↓cond_true, ↓cond_false, evC, evOp, XO.lit, setArgs, Tr.get_set, Option.bind_some, Option.map_some, cond_true, cond_false, maxI, maxFrom, minI, minFrom, aConv, aBinE, aEq, eqScal, aUn, evRes, fin, oneOf, if_true, if_false, callee, reduceCtorEq, Nat.reduceEqDiff, and_self, decide_true, decide_false, beq_true, beq_false, Bool.not_true, Bool.not_false, List.getElem?_cons_zero, List.getElem?_cons_succ, beq_self_eq_true, gt_iff_lt, ble_dec, beq_dec, List.head?_cons, AV.undef, eq_self, ne_eq, not_true_eq_false, not_false_eq_true, Int.reduceLT, Int.reduceLE, Int.reduceToNat, Int.reduceEq, Int.reduceNeg, Nat.reduceAdd, Nat.reduceLT, Nat.reduceLeDiff, Nat.reduceMul, Nat.reduceSub, AV.cells, AV.tup, Bool.true_and, true_and, and_true, List.drop_nil, List.append_nil, rd_put, rd_alloc, rdO, St.get_put, St.get_alloc, St.next_put, St.next_alloc, St.wr, Bool.and_self, Bool.and_true, List.length_cons, List.length_nil, List.take_succ_cons, List.take_zero, List.drop_succ_cons, List.drop_zero, List.cons_append, List.nil_append, Nat.zero_add, Nat.add_zero, Nat.reduceMul, t1, t5, t6, t8, t9, t10, c1, c2, hm, q, hix, hz, mask7, w1, w2, hy, w3, w4, w5, wrap_u16, e14, hm2, lk, o2, pm, bne_self_eq_false]
        refine ⟨a - 1, ⟨?_, ?_, ?_, ?_, hx2.then_put (by omega) _, addS s y, y :: K, _, c + 1, i + 1, y, ?_, ?_, ?_, ?_, ?_, mp2, kn2, ?_, by omega, by omega, by omega, y0, y1, fun h => by omega, fun _ => ⟨?_, ?_, ?_⟩, by simp only [List.length_cons]; omega⟩, by simp only [id]; omega⟩
        · simp only [Tr.get_set, Nat.reduceEqDiff, if_false, if_true, t1]
        · simp only [Tr.get_set, Nat.reduceEqDiff, if_false, if_true, t5]
        · simp only [Tr.get_set, Nat.reduceEqDiff, if_false, if_true, t6]
        · simp only [Tr.get_set, Nat.reduceEqDiff, if_false, if_true, t7]
        · simp only [Tr.get_set, Nat.reduceEqDiff, if_false, if_true, t8]
        · simp only [Tr.get_set, Nat.reduceEqDiff, if_false, if_true, l2]
        · simp only [Tr.get_set, Nat.reduceEqDiff, if_false, if_true, t10]
        · rw [St.get_put, if_neg (by omega)]; exact hs2
        · rw [St.get_put, if_pos rfl]
        · rw [show (i + 1).toNat = i.toNat + 1 by omega]; exact g'
        · rw [f2]; rw [if_neg (by have := z1 q; omega)]; exact (z1 q).1
        · rw [l2]; have := z1 q; split <;> omega
        · rw [l2]; have := z1 q; split <;> omega
      · have hb0 : addB s y = false := by simpa using hb
        rw [hb0] at e14
        rw [add_no hb] at u2 hs2 g'
        by_cases o1 : y ∈ K
        · rw [if_pos o1] at lk
          simp -implicitDefEqProofs -dsimp (maxSteps := 10000000) only [af6_l1, ↓goes_loop, ↓goes_seq, ↓goes_reg, ↓goes_dreg, ↓goes_cond, ↓goes_block, ↓goes_skip, ↓goes_exit, ↓goes_ret, after_some, br_true, br_false, ↓then_normal, ↓then_exit, ↓then_ret, ↓blk_normal, ↓blk_exit, ↓blk_ret, ↓blk_other, ops_nil, ops_some, ops_none, oper_none, oper_some, gd_tt, gd_ff, gd_tf, gd_ft, gd_undef, ↓any_op, ↓any_call, ↓any_callV, ↓any_invoke, xo_t, xo_c, args_nil, args_cons, bin_add, bin_sub, bin_mul, bin_quo, bin_rem, bin_and, bin_or, bin_xor, bin_andNot, bin_eql, bin_neq, bin_lss, bin_leq, bin_gtr, bin_geq, bin_shl, bin_shr, bin_bools, bin_strs, bin_ptrs, bin_slices, bin_aggs, ↓Option.bind_some, ↓Option.map_some, ↓cond_true, ↓cond_false, evC, evOp, XO.lit, setArgs, Tr.get_set, Option.bind_some, Option.map_some, cond_true, cond_false, maxI, maxFrom, minI, minFrom, aConv, aBinE, aEq, eqScal, aUn, evRes, fin, oneOf, if_true, if_false, callee, reduceCtorEq, Nat.reduceEqDiff, and_self, decide_true, decide_false, beq_true, beq_false, Bool.not_true, Bool.not_false, List.getElem?_cons_zero, List.getElem?_cons_succ, beq_self_eq_true, gt_iff_lt, ble_dec, beq_dec, List.head?_cons, AV.undef, eq_self, ne_eq, not_true_eq_false, not_false_eq_true, Int.reduceLT, Int.reduceLE, Int.reduceToNat, Int.reduceEq, Int.reduceNeg, Nat.reduceAdd, Nat.reduceLT, Nat.reduceLeDiff, Nat.reduceMul, Nat.reduceSub, AV.cells, AV.tup, Bool.true_and, true_and, and_true, List.drop_nil, List.append_nil, rd_put, rd_alloc, rdO, St.get_put, St.get_alloc, St.next_put, St.next_alloc, St.wr, Bool.and_self, Bool.and_true, List.length_cons, List.length_nil, List.take_succ_cons, List.take_zero, List.drop_succ_cons, List.drop_zero, List.cons_append, List.nil_append, Nat.zero_add, Nat.add_zero, Nat.reduceMul, t1, t5, t6, t8, t9, t10, c1, c2, hm, q, hix, hz, mask7, w1, w2, hy, w3, w4, w5, wrap_u16, e14, hm2, lk, bne_self_eq_false, Int.one_ne_zero]
          refine ⟨a - 1, ⟨?_, ?_, ?_, ?_, hx2, s, K, l, c, i + 1, y, ?_, ?_, ?_, hs2, hm2, mp, kn, ?_, by omega, by omega, by omega, y0, y1, fun h => by omega, fun _ => ?_, by omega⟩, by simp only [id]; omega⟩
          · simp only [Tr.get_set, Nat.reduceEqDiff, if_false, if_true, t1]
          · simp only [Tr.get_set, Nat.reduceEqDiff, if_false, if_true, t5]
          · simp only [Tr.get_set, Nat.reduceEqDiff, if_false, if_true, t6]
          · simp only [Tr.get_set, Nat.reduceEqDiff, if_false, if_true, t7]
          · simp only [Tr.get_set, Nat.reduceEqDiff, if_false, if_true, t8]
          · simp only [Tr.get_set, Nat.reduceEqDiff, if_false, if_true, t9]
          · simp only [Tr.get_set, Nat.reduceEqDiff, if_false, if_true, t10]
          · rw [show (i + 1).toNat = i.toNat + 1 by omega]; exact g'
          · have := z1 q; omega
        · rw [if_neg o1] at lk
          have o2 : ¬ s.l - 64 < y := fun h => hb (ok.2 ⟨o1, h⟩)
          simp -implicitDefEqProofs -dsimp (maxSteps := 10000000) only [af6_l1, ↓goes_loop, ↓goes_seq, ↓goes_reg, ↓goes_dreg, ↓goes_cond, ↓goes_block, ↓goes_skip, ↓goes_exit, ↓goes_ret, after_some, br_true, br_false, ↓then_normal, ↓then_exit, ↓then_ret, ↓blk_normal, ↓blk_exit, ↓blk_ret, ↓blk_other, ops_nil, ops_some, ops_none, oper_none, oper_some, gd_tt, gd_ff, gd_tf, gd_ft, gd_undef, ↓any_op, ↓any_call, ↓any_callV, ↓any_invoke, xo_t, xo_c, args_nil, args_cons, bin_add, bin_sub, bin_mul, bin_quo, bin_rem, bin_and, bin_or, bin_xor, bin_andNot, bin_eql, bin_neq, bin_lss, bin_leq, bin_gtr, bin_geq, bin_shl, bin_shr, bin_bools, bin_strs, bin_ptrs, bin_slices, bin_aggs, ↓Option.bind_some, ↓Option.map_some, ↓cond_true, ↓cond_false, evC, evOp, XO.lit, setArgs, Tr.get_set, Option.bind_some, Option.map_some, cond_true, cond_false, maxI, maxFrom, minI, minFrom, aConv, aBinE, aEq, eqScal, aUn, evRes, fin, oneOf, if_true, if_false, callee, reduceCtorEq, Nat.reduceEqDiff, and_self, decide_true, decide_false, beq_true, beq_false, Bool.not_true, Bool.not_false, List.getElem?_cons_zero, List.getElem?_cons_succ, beq_self_eq_true, gt_iff_lt, ble_dec, beq_dec, List.head?_cons, AV.undef, eq_self, ne_eq, not_true_eq_false, not_false_eq_true, Int.reduceLT, Int.reduceLE, Int.reduceToNat, Int.reduceEq, Int.reduceNeg, Nat.reduceAdd, Nat.reduceLT, Nat.reduceLeDiff, Nat.reduceMul, Nat.reduceSub, AV.cells, AV.tup, Bool.true_and, true_and, and_true, List.drop_nil, List.append_nil, rd_put, rd_alloc, rdO, St.get_put, St.get_alloc, St.next_put, St.next_alloc, St.wr, Bool.and_self, Bool.and_true, List.length_cons, List.length_nil, List.take_succ_cons, List.take_zero, List.drop_succ_cons, List.drop_zero, List.cons_append, List.nil_append, Nat.zero_add, Nat.add_zero, Nat.reduceMul, t1, t5, t6, t8, t9, t10, c1, c2, hm, q, hix, hz, mask7, w1, w2, hy, w3, w4, w5, wrap_u16, e14, hm2, lk, o2, bne_self_eq_false]
          refine ⟨a - 1, ⟨?_, ?_, ?_, ?_, hx2, s, K, l, c, i + 1, y, ?_, ?_, ?_, hs2, hm2, mp, kn, ?_, by omega, by omega, by omega, y0, y1, fun h => by omega, fun _ => ?_, by omega⟩, by simp only [id]; omega⟩
          · simp only [Tr.get_set, Nat.reduceEqDiff, if_false, if_true, t1]
          · simp only [Tr.get_set, Nat.reduceEqDiff, if_false, if_true, t5]
          · simp only [Tr.get_set, Nat.reduceEqDiff, if_false, if_true, t6]
          · simp only [Tr.get_set, Nat.reduceEqDiff, if_false, if_true, t7]
          · simp only [Tr.get_set, Nat.reduceEqDiff, if_false, if_true, t8]
          · simp only [Tr.get_set, Nat.reduceEqDiff, if_false, if_true, t9]
          · simp only [Tr.get_set, Nat.reduceEqDiff, if_false, if_true, t10]
          · rw [show (i + 1).toNat = i.toNat + 1 by omega]; exact g'
          · have := z1 q; omega
    · obtain ⟨y, hy⟩ : ∃ y, at_ = y := ⟨_, rfl⟩
      rw [hy] at t8
      have y0 : first - 2 * (i + 1) ≤ y := by omega
      have y1 : y ≤ first + 5 * (i + 1) := by omega
      have hx : Go.Proofs.YtanloaedpalblaaA.ext 65536 s.l (y % 65536) = y := ext_near hf0 hf1 hll (by omega) (by omega)
      obtain ⟨S2, e14, u2⟩ := T14 (S := S) (n := y % 65536) (k + 995) g (by omega) (by omega) (by omega) hs
      have g' := add_good g (by omega) (by omega) (by omega) (n := y % 65536)
      rw [hx] at e14 u2 g'
      have hx2 : Ext Sb S2 := u2.ext he (Nat.le_refl _)
      have hs2 : S2.get Sb.next = some (sn (addS s y)) := u2.same
      have hm2 : S2.get (Sb.next + 1) = some (.map .i64 .i64 l c) := by rw [u2.else (by omega)]; exact hmp
      have ok := kn.ok g (x := y) (by omega)
      have lk := mp.look y
      by_cases hb : addB s y = true
      · obtain ⟨o1, o2⟩ := ok.1 hb
        rw [if_neg o1] at lk
        obtain ⟨kn2, l2, f2⟩ := kn.add g (by omega) hb
        obtain ⟨pm, mp2⟩ := mp.add o1 c
        rw [hb] at e14
        simp -implicitDefEqProofs -dsimp (maxSteps := 10000000) only [af6_l1, ↓goes_loop, ↓goes_seq, ↓goes_reg, ↓goes_dreg, ↓goes_cond, ↓goes_block, ↓goes_skip, ↓goes_exit, ↓goes_ret, after_some, br_true, br_false, ↓then_normal, ↓then_exit, ↓then_ret, ↓blk_normal, ↓blk_exit, ↓blk_ret, ↓blk_other, ops_nil, ops_some, ops_none, oper_none, oper_some, gd_tt, gd_ff, gd_tf, gd_ft, gd_undef, ↓any_op, ↓any_call, ↓any_callV, ↓any_invoke, xo_t, xo_c, args_nil, args_cons, bin_add, bin_sub, bin_mul, bin_quo, bin_rem, bin_and, bin_or, bin_xor, bin_andNot, bin_eql, bin_neq, bin_lss, bin_leq, bin_gtr, bin_geq, bin_shl, bin_shr, bin_bools, bin_strs, bin_ptrs, bin_slices, bin_aggs, ↓Option.bind_some, ↓Option.map_some, ↓cond_true, ↓cond_false, evC, evOp, XO.lit, setArgs, Tr.get_set, Option.bind_some, Option.map_some, cond_true, cond_false, maxI, maxFrom, minI, minFrom, aConv, aBinE, aEq, eqScal, aUn, evRes, fin, oneOf, if_true, if_false, callee, reduceCtorEq, Nat.reduceEqDiff, and_self, decide_true, decide_false, beq_true, beq_false, Bool.not_true, Bool.not_false, List.getElem?_cons_zero, List.getElem?_cons_succ, beq_self_eq_true, gt_iff_lt, ble_dec, beq_dec, List.head?_cons, AV.undef, eq_self, ne_eq, not_true_eq_false, not_false_eq_true, Int.reduceLT, Int.reduceLE, Int.reduceToNat, Int.reduceEq, Int.reduceNeg, Nat.reduceAdd, Nat.reduceLT, Nat.reduceLeDiff, Nat.reduceMul, Nat.reduceSub, AV.cells, AV.tup, Bool.true_and, true_and, and_true, List.drop_nil, List.append_nil, rd_put, rd_alloc, rdO, St.get_put, St.get_alloc, St.next_put, St.next_alloc, St.wr, Bool.and_self, Bool.and_true, List.length_cons, List.length_nil, List.take_succ_cons, List.take_zero, List.drop_succ_cons, List.drop_zero, List.cons_append, List.nil_append, Nat.zero_add, Nat.add_zero, Nat.reduceMul, t1, t5, t6, t8, t9, t10, c1, c2, hm, q, w3, w4, w5, wrap_u16, e14, hm2, lk, o2, pm, bne_self_eq_false]
        refine ⟨a - 1, ⟨?_, ?_, ?_, ?_, hx2.then_put (by omega) _, addS s y, y :: K, _, c + 1, i + 1, y, ?_, ?_, ?_, ?_, ?_, mp2, kn2, ?_, by omega, by omega, by omega, y0, y1, fun h => by omega, fun _ => ⟨?_, ?_, ?_⟩, by simp only [List.length_cons]; omega⟩, by simp only [id]; omega⟩
        · simp only [Tr.get_set, Nat.reduceEqDiff, if_false, if_true, t1]
        · simp only [Tr.get_set, Nat.reduceEqDiff, if_false, if_true, t5]
        · simp only [Tr.get_set, Nat.reduceEqDiff, if_false, if_true, t6]
        · simp only [Tr.get_set, Nat.reduceEqDiff, if_false, if_true, t7]
        · simp only [Tr.get_set, Nat.reduceEqDiff, if_false, if_true, t8]
        · simp only [Tr.get_set, Nat.reduceEqDiff, if_false, if_true, l2]
        · simp only [Tr.get_set, Nat.reduceEqDiff, if_false, if_true, t10]
        · rw [St.get_put, if_neg (by omega)]; exact hs2
        · rw [St.get_put, if_pos rfl]
        · rw [show (i + 1).toNat = i.toNat + 1 by omega]; exact g'
        · rw [f2]; rw [if_pos (z0 (by omega))]; have := b0; have := b1; omega
        · rw [l2]; have := z0 (by omega); have := b0; have := b1; split <;> omega
        · rw [l2]; have := z0 (by omega); have := b0; have := b1; split <;> omega
      · have hb0 : addB s y = false := by simpa using hb
        rw [hb0] at e14
        rw [add_no hb] at u2 hs2 g'
        by_cases o1 : y ∈ K
        · rw [if_pos o1] at lk
          simp -implicitDefEqProofs -dsimp (maxSteps := 10000000) only [af6_l1, ↓goes_loop, ↓goes_seq, ↓goes_reg, ↓goes_dreg, ↓goes_cond, ↓goes_block, ↓goes_skip, ↓goes_exit, ↓goes_ret, after_some, br_true, br_false, ↓then_normal, ↓then_exit, ↓then_ret, ↓blk_normal, ↓blk_exit, ↓blk_ret, ↓blk_other, ops_nil, ops_some, ops_none, oper_none, oper_some, gd_tt, gd_ff, gd_tf, gd_ft, gd_undef, ↓any_op, ↓any_call, ↓any_callV, ↓any_invoke, xo_t, xo_c, args_nil, args_cons, bin_add, bin_sub, bin_mul, bin_quo, bin_rem, bin_and, bin_or, bin_xor, bin_andNot, bin_eql, bin_neq, bin_lss, bin_leq, bin_gtr, bin_geq, bin_shl, bin_shr, bin_bools, bin_strs, bin_ptrs, bin_slices, bin_aggs, ↓Option.bind_some, ↓Option.map_some, ↓cond_true, ↓cond_false, evC, evOp, XO.lit, setArgs, Tr.get_set, Option.bind_some, Option.map_some, cond_true, cond_false, maxI, maxFrom, minI, minFrom, aConv, aBinE, aEq, eqScal, aUn, evRes, fin, oneOf, if_true, if_false, callee, reduceCtorEq, Nat.reduceEqDiff, and_self, decide_true, decide_false, beq_true, beq_false, Bool.not_true, Bool.not_false, List.getElem?_cons_zero, List.getElem?_cons_succ, beq_self_eq_true, gt_iff_lt, ble_dec, beq_dec, List.head?_cons, AV.undef, eq_self, ne_eq, not_true_eq_false, not_false_eq_true, Int.reduceLT, Int.reduceLE, Int.reduceToNat, Int.reduceEq, Int.reduceNeg, Nat.reduceAdd, Nat.reduceLT, Nat.reduceLeDiff, Nat.reduceMul, Nat.reduceSub, AV.cells, AV.tup, Bool.true_and, true_and, and_true, List.drop_nil, List.append_nil, rd_put, rd_alloc, rdO, St.get_put, St.get_alloc, St.next_put, St.next_alloc, St.wr, Bool.and_self, Bool.and_true, List.length_cons, List.length_nil, List.take_succ_cons, List.take_zero, List.drop_succ_cons, List.drop_zero, List.cons_append, List.nil_append, Nat.zero_add, Nat.add_zero, Nat.reduceMul, t1, t5, t6, t8, t9, t10, c1, c2, hm, q, w3, w4, w5, wrap_u16, e14, hm2, lk, bne_self_eq_false, Int.one_ne_zero]
          refine ⟨a - 1, ⟨?_, ?_, ?_, ?_, hx2, s, K, l, c, i + 1, y, ?_, ?_, ?_, hs2, hm2, mp, kn, ?_, by omega, by omega, by omega, y0, y1, fun h => by omega, fun _ => ?_, by omega⟩, by simp only [id]; omega⟩
          · simp only [Tr.get_set, Nat.reduceEqDiff, if_false, if_true, t1]
          · simp only [Tr.get_set, Nat.reduceEqDiff, if_false, if_true, t5]
          · simp only [Tr.get_set, Nat.reduceEqDiff, if_false, if_true, t6]
          · simp only [Tr.get_set, Nat.reduceEqDiff, if_false, if_true, t7]
          · simp only [Tr.get_set, Nat.reduceEqDiff, if_false, if_true, t8]
          · simp only [Tr.get_set, Nat.reduceEqDiff, if_false, if_true, t9]
          · simp only [Tr.get_set, Nat.reduceEqDiff, if_false, if_true, t10]
          · rw [show (i + 1).toNat = i.toNat + 1 by omega]; exact g'
          · exact absurd (by unfold addB; rw [if_pos (z0 (by omega))]) hb
        · rw [if_neg o1] at lk
          have o2 : ¬ s.l - 64 < y := fun h => hb (ok.2 ⟨o1, h⟩)
          simp -implicitDefEqProofs -dsimp (maxSteps := 10000000) only [af6_l1, ↓goes_loop, ↓goes_seq, ↓goes_reg, ↓goes_dreg, ↓goes_cond, ↓goes_block, ↓goes_skip, ↓goes_exit, ↓goes_ret, after_some, br_true, br_false, ↓then_normal, ↓then_exit, ↓then_ret, ↓blk_normal, ↓blk_exit, ↓blk_ret, ↓blk_other, ops_nil, ops_some, ops_none, oper_none, oper_some, gd_tt, gd_ff, gd_tf, gd_ft, gd_undef, ↓any_op, ↓any_call, ↓any_callV, ↓any_invoke, xo_t, xo_c, args_nil, args_cons, bin_add, bin_sub, bin_mul, bin_quo, bin_rem, bin_and, bin_or, bin_xor, bin_andNot, bin_eql, bin_neq, bin_lss, bin_leq, bin_gtr, bin_geq, bin_shl, bin_shr, bin_bools, bin_strs, bin_ptrs, bin_slices, bin_aggs, ↓Option.bind_some, ↓Option.map_some, ↓cond_true, ↓cond_false, evC, evOp, XO.lit, setArgs, Tr.get_set, Option.bind_some, Option.map_some, cond_true, cond_false, maxI, maxFrom, minI, minFrom, aConv, aBinE, aEq, eqScal, aUn, evRes, fin, oneOf, if_true, if_false, callee, reduceCtorEq, Nat.reduceEqDiff, and_self, decide_true, decide_false, beq_true, beq_false, Bool.not_true, Bool.not_false, List.getElem?_cons_zero, List.getElem?_cons_succ, beq_self_eq_true, gt_iff_lt, ble_dec, beq_dec, List.head?_cons, AV.undef, eq_self, ne_eq, not_true_eq_false, not_false_eq_true, Int.reduceLT, Int.reduceLE, Int.reduceToNat, Int.reduceEq, Int.reduceNeg, Nat.reduceAdd, Nat.reduceLT, Nat.reduceLeDiff, Nat.reduceMul, Nat.reduceSub, AV.cells, AV.tup, Bool.true_and, true_and, and_true, List.drop_nil, List.append_nil, rd_put, rd_alloc, rdO, St.get_put, St.get_alloc, St.next_put, St.next_alloc, St.wr, Bool.and_self, Bool.and_true, List.length_cons, List.length_nil, List.take_succ_cons, List.take_zero, List.drop_succ_cons, List.drop_zero, List.cons_append, List.nil_append, Nat.zero_add, Nat.add_zero, Nat.reduceMul, t1, t5, t6, t8, t9, t10, c1, c2, hm, q, w3, w4, w5, wrap_u16, e14, hm2, lk, o2, bne_self_eq_false]
          refine ⟨a - 1, ⟨?_, ?_, ?_, ?_, hx2, s, K, l, c, i + 1, y, ?_, ?_, ?_, hs2, hm2, mp, kn, ?_, by omega, by omega, by omega, y0, y1, fun h => by omega, fun _ => ?_, by omega⟩, by simp only [id]; omega⟩
          · simp only [Tr.get_set, Nat.reduceEqDiff, if_false, if_true, t1]
          · simp only [Tr.get_set, Nat.reduceEqDiff, if_false, if_true, t5]
          · simp only [Tr.get_set, Nat.reduceEqDiff, if_false, if_true, t6]
          · simp only [Tr.get_set, Nat.reduceEqDiff, if_false, if_true, t7]
          · simp only [Tr.get_set, Nat.reduceEqDiff, if_false, if_true, t8]
          · simp only [Tr.get_set, Nat.reduceEqDiff, if_false, if_true, t9]
          · simp only [Tr.get_set, Nat.reduceEqDiff, if_false, if_true, t10]
          · rw [show (i + 1).toNat = i.toNat + 1 by omega]; exact g'
          · exact absurd (by unfold addB; rw [if_pos (z0 (by omega))]) hb
  · by_cases c1 : i < len
    · have c2 : ¬ i < 100 := by omega
      simp -implicitDefEqProofs -dsimp (maxSteps := 10000000) only [af6_l1, ↓goes_loop, ↓goes_seq, ↓goes_reg, ↓goes_dreg, ↓goes_cond, ↓goes_block, ↓goes_skip, ↓goes_exit, ↓goes_ret, after_some, br_true, br_false, ↓then_normal, ↓then_exit, ↓then_ret, ↓blk_normal, ↓blk_exit, ↓blk_ret, ↓blk_other, ops_nil, ops_some, ops_none, oper_none, oper_some, gd_tt, gd_ff, gd_tf, gd_ft, gd_undef, ↓any_op, ↓any_call, ↓any_callV, ↓any_invoke, xo_t, xo_c, args_nil, args_cons, bin_add, bin_sub, bin_mul, bin_quo, bin_rem, bin_and, bin_or, bin_xor, bin_andNot, bin_eql, bin_neq, bin_lss, bin_leq, bin_gtr, bin_geq, bin_shl, bin_shr, bin_bools, bin_strs, bin_ptrs, bin_slices, bin_aggs, ↓Option.bind_some, ↓Option.map_some, ↓cond_true, ↓cond_false, evC, evOp, XO.lit, setArgs, Tr.get_set, Option.bind_some, Option.map_some, cond_true, cond_false, maxI, maxFrom, minI, minFrom, aConv, aBinE, aEq, eqScal, aUn, evRes, fin, oneOf, if_true, if_false, callee, reduceCtorEq, Nat.reduceEqDiff, and_self, decide_true, decide_false, beq_true, beq_false, Bool.not_true, Bool.not_false, List.getElem?_cons_zero, List.getElem?_cons_succ, beq_self_eq_true, gt_iff_lt, ble_dec, beq_dec, List.head?_cons, AV.undef, eq_self, ne_eq, not_true_eq_false, not_false_eq_true, Int.reduceLT, Int.reduceLE, Int.reduceToNat, Int.reduceEq, Int.reduceNeg, Nat.reduceAdd, Nat.reduceLT, Nat.reduceLeDiff, Nat.reduceMul, Nat.reduceSub, AV.cells, AV.tup, Bool.true_and, true_and, and_true, List.drop_nil, List.append_nil, rd_put, rd_alloc, rdO, St.get_put, St.get_alloc, St.next_put, St.next_alloc, St.wr, Bool.and_self, Bool.and_true, List.length_cons, List.length_nil, List.take_succ_cons, List.take_zero, List.drop_succ_cons, List.drop_zero, List.cons_append, List.nil_append, Nat.zero_add, Nat.add_zero, Nat.reduceMul, t1, t10, c1, c2, hm]
      refine ⟨a, ?_, ?_, ?_, ?_, he, s, K, l, c, i, at_, ?_, ?_, ?_, hs, hmp, mp, kn, g, i0, i1, ha, b0, b1, z0, z1, kl⟩
      · simp only [Tr.get_set, Nat.reduceEqDiff, if_false, if_true, t1]
      · simp only [Tr.get_set, Nat.reduceEqDiff, if_false, if_true, t5]
      · simp only [Tr.get_set, Nat.reduceEqDiff, if_false, if_true, t6]
      · simp only [Tr.get_set, Nat.reduceEqDiff, if_false, if_true, t7]
      · simp only [Tr.get_set, Nat.reduceEqDiff, if_false, if_true, t8]
      · simp only [Tr.get_set, Nat.reduceEqDiff, if_false, if_true, t9]
      · simp only [Tr.get_set, Nat.reduceEqDiff, if_false, if_true, t10]
    · simp -implicitDefEqProofs -dsimp (maxSteps := 10000000) only [af6_l1, ↓goes_loop, ↓goes_seq, ↓goes_reg, ↓goes_dreg, ↓goes_cond, ↓goes_block, ↓goes_skip, ↓goes_exit, ↓goes_ret, after_some, br_true, br_false, ↓then_normal, ↓then_exit, ↓then_ret, ↓blk_normal, ↓blk_exit, ↓blk_ret, ↓blk_other, ops_nil, ops_some, ops_none, oper_none, oper_some, gd_tt, gd_ff, gd_tf, gd_ft, gd_undef, ↓any_op, ↓any_call, ↓any_callV, ↓any_invoke, xo_t, xo_c, args_nil, args_cons, bin_add, bin_sub, bin_mul, bin_quo, bin_rem, bin_and, bin_or, bin_xor, bin_andNot, bin_eql, bin_neq, bin_lss, bin_leq, bin_gtr, bin_geq, bin_shl, bin_shr, bin_bools, bin_strs, bin_ptrs, bin_slices, bin_aggs, ↓Option.bind_some, ↓Option.map_some, ↓cond_true, ↓cond_false, evC, evOp, XO.lit, setArgs, Tr.get_set, Option.bind_some, Option.map_some, cond_true, cond_false, maxI, maxFrom, minI, minFrom, aConv, aBinE, aEq, eqScal, aUn, evRes, fin, oneOf, if_true, if_false, callee, reduceCtorEq, Nat.reduceEqDiff, and_self, decide_true, decide_false, beq_true, beq_false, Bool.not_true, Bool.not_false, List.getElem?_cons_zero, List.getElem?_cons_succ, beq_self_eq_true, gt_iff_lt, ble_dec, beq_dec, List.head?_cons, AV.undef, eq_self, ne_eq, not_true_eq_false, not_false_eq_true, Int.reduceLT, Int.reduceLE, Int.reduceToNat, Int.reduceEq, Int.reduceNeg, Nat.reduceAdd, Nat.reduceLT, Nat.reduceLeDiff, Nat.reduceMul, Nat.reduceSub, AV.cells, AV.tup, Bool.true_and, true_and, and_true, List.drop_nil, List.append_nil, rd_put, rd_alloc, rdO, St.get_put, St.get_alloc, St.next_put, St.next_alloc, St.wr, Bool.and_self, Bool.and_true, List.length_cons, List.length_nil, List.take_succ_cons, List.take_zero, List.drop_succ_cons, List.drop_zero, List.cons_append, List.nil_append, Nat.zero_add, Nat.add_zero, Nat.reduceMul, t1, t10, c1, hm]
      refine ⟨a, ?_, ?_, ?_, ?_, he, s, K, l, c, i, at_, ?_, ?_, ?_, hs, hmp, mp, kn, g, i0, i1, ha, b0, b1, z0, z1, kl⟩
      · simp only [Tr.get_set, Nat.reduceEqDiff, if_false, if_true, t1]
      · simp only [Tr.get_set, Nat.reduceEqDiff, if_false, if_true, t5]
      · simp only [Tr.get_set, Nat.reduceEqDiff, if_false, if_true, t6]
      · simp only [Tr.get_set, Nat.reduceEqDiff, if_false, if_true, t7]
      · simp only [Tr.get_set, Nat.reduceEqDiff, if_false, if_true, t8]
      · simp only [Tr.get_set, Nat.reduceEqDiff, if_false, if_true, t9]
      · simp only [Tr.get_set, Nat.reduceEqDiff, if_false, if_true, t10]
set_option maxHeartbeats 4000000 in
theorem round60 (k : Nat) {o : Nat} {first top : Int} {K : List Int} {Sb : St} {l : List (Int × Int × Nat)} {c : Nat} (hf0 : 40000 ≤ first) (ht : top ≤ 57000) (hmp : Sb.get (o + 1) = some (.map .i64 .i64 l c)) (mp : Mp K l) (nd : K.Nodup) (kf : K.length ≤ 1000) (a : Nat) (T : Tm) (S : St) (hI : I7 o first top K Sb a T S) :
    Goes (evF X6 AP (k + 999)) (k + 999) af6_l0 T S (Then (fun T' S' => ∃ a', I7 o first top K Sb a' T' S' ∧ id a' < id a) fun r T' S' => r = .exit 2 ∧ ∃ a', I7 o first top K Sb a' T' S' ∧ T'.get 14 = some (.int .i64 (top + 1))) := by
  obtain ⟨rfl, t5, t6, t9, n, t14, t13, n0, n1, ha⟩ := hI
  have hc := cnt_le first n K
  by_cases c1 : n ≤ top
  · have w1 : IntKind.i64.wrap (n + 1) = n + 1 := w64_id (by omega) (by omega)
    have w2 : IntKind.i64.wrap (n - first - cnt K first n + 1) = n - first - cnt K first n + 1 := w64_id (by omega) (by omega)
    have lk := mp.look n
    have hs := cnt_succ (a := first) (n := n) n0 nd
    by_cases o1 : n ∈ K
    · rw [if_pos o1] at lk hs
      simp -implicitDefEqProofs -dsimp (maxSteps := 10000000) only [af6_l0, ↓goes_loop, ↓goes_seq, ↓goes_reg, ↓goes_dreg, ↓goes_cond, ↓goes_block, ↓goes_skip, ↓goes_exit, ↓goes_ret, after_some, br_true, br_false, ↓then_normal, ↓then_exit, ↓then_ret, ↓blk_normal, ↓blk_exit, ↓blk_ret, ↓blk_other, ops_nil, ops_some, ops_none, oper_none, oper_some, gd_tt, gd_ff, gd_tf, gd_ft, gd_undef, ↓any_op, ↓any_call, ↓any_callV, ↓any_invoke, xo_t, xo_c, args_nil, args_cons, bin_add, bin_sub, bin_mul, bin_quo, bin_rem, bin_and, bin_or, bin_xor, bin_andNot, bin_eql, bin_neq, bin_lss, bin_leq, bin_gtr, bin_geq, bin_shl, bin_shr, bin_bools, bin_strs, bin_ptrs, bin_slices, bin_aggs, ↓Option.bind_some, ↓Option.map_some, ↓cond_true, ↓cond_false, evC, evOp, XO.lit, setArgs, Tr.get_set, Option.bind_some, Option.map_some, cond_true, cond_false, maxI, maxFrom, minI, minFrom, aConv, aBinE, aEq, eqScal, aUn, evRes, fin, oneOf, if_true, if_false, callee, reduceCtorEq, Nat.reduceEqDiff, and_self, decide_true, decide_false, beq_true, beq_false, Bool.not_true, Bool.not_false, List.getElem?_cons_zero, List.getElem?_cons_succ, beq_self_eq_true, gt_iff_lt, ble_dec, beq_dec, List.head?_cons, AV.undef, eq_self, ne_eq, not_true_eq_false, not_false_eq_true, Int.reduceLT, Int.reduceLE, Int.reduceToNat, Int.reduceEq, Int.reduceNeg, Nat.reduceAdd, Nat.reduceLT, Nat.reduceLeDiff, Nat.reduceMul, Nat.reduceSub, AV.cells, AV.tup, Bool.true_and, true_and, and_true, List.drop_nil, List.append_nil, rd_put, rd_alloc, rdO, St.get_put, St.get_alloc, St.next_put, St.next_alloc, St.wr, Bool.and_self, Bool.and_true, List.length_cons, List.length_nil, List.take_succ_cons, List.take_zero, List.drop_succ_cons, List.drop_zero, List.cons_append, List.nil_append, Nat.zero_add, Nat.add_zero, Nat.reduceMul, t5, t6, t9, t14, t13, c1, hmp, lk, w1, w2, Int.one_ne_zero]
      refine ⟨a - 1, ⟨rfl, ?_, ?_, ?_, n + 1, ?_, ?_, by omega, by omega, by omega⟩, by simp only [id]; omega⟩
      · simp only [Tr.get_set, Nat.reduceEqDiff, if_false, if_true, t5]
      · simp only [Tr.get_set, Nat.reduceEqDiff, if_false, if_true, t6]
      · simp only [Tr.get_set, Nat.reduceEqDiff, if_false, if_true, t9]
      · simp only [Tr.get_set, Nat.reduceEqDiff, if_false, if_true]
      · simp only [Tr.get_set, Nat.reduceEqDiff, if_false, if_true, t13]
        rw [hs]; congr 2; omega
    · rw [if_neg o1] at lk hs
      simp -implicitDefEqProofs -dsimp (maxSteps := 10000000) only [af6_l0, ↓goes_loop, ↓goes_seq, ↓goes_reg, ↓goes_dreg, ↓goes_cond, ↓goes_block, ↓goes_skip, ↓goes_exit, ↓goes_ret, after_some, br_true, br_false, ↓then_normal, ↓then_exit, ↓then_ret, ↓blk_normal, ↓blk_exit, ↓blk_ret, ↓blk_other, ops_nil, ops_some, ops_none, oper_none, oper_some, gd_tt, gd_ff, gd_tf, gd_ft, gd_undef, ↓any_op, ↓any_call, ↓any_callV, ↓any_invoke, xo_t, xo_c, args_nil, args_cons, bin_add, bin_sub, bin_mul, bin_quo, bin_rem, bin_and, bin_or, bin_xor, bin_andNot, bin_eql, bin_neq, bin_lss, bin_leq, bin_gtr, bin_geq, bin_shl, bin_shr, bin_bools, bin_strs, bin_ptrs, bin_slices, bin_aggs, ↓Option.bind_some, ↓Option.map_some, ↓cond_true, ↓cond_false, evC, evOp, XO.lit, setArgs, Tr.get_set, Option.bind_some, Option.map_some, cond_true, cond_false, maxI, maxFrom, minI, minFrom, aConv, aBinE, aEq, eqScal, aUn, evRes, fin, oneOf, if_true, if_false, callee, reduceCtorEq, Nat.reduceEqDiff, and_self, decide_true, decide_false, beq_true, beq_false, Bool.not_true, Bool.not_false, List.getElem?_cons_zero, List.getElem?_cons_succ, beq_self_eq_true, gt_iff_lt, ble_dec, beq_dec, List.head?_cons, AV.undef, eq_self, ne_eq, not_true_eq_false, not_false_eq_true, Int.reduceLT, Int.reduceLE, Int.reduceToNat, Int.reduceEq, Int.reduceNeg, Nat.reduceAdd, Nat.reduceLT, Nat.reduceLeDiff, Nat.reduceMul, Nat.reduceSub, AV.cells, AV.tup, Bool.true_and, true_and, and_true, List.drop_nil, List.append_nil, rd_put, rd_alloc, rdO, St.get_put, St.get_alloc, St.next_put, St.next_alloc, St.wr, Bool.and_self, Bool.and_true, List.length_cons, List.length_nil, List.take_succ_cons, List.take_zero, List.drop_succ_cons, List.drop_zero, List.cons_append, List.nil_append, Nat.zero_add, Nat.add_zero, Nat.reduceMul, t5, t6, t9, t14, t13, c1, hmp, lk, w1, w2]
      refine ⟨a - 1, ⟨rfl, ?_, ?_, ?_, n + 1, ?_, ?_, by omega, by omega, by omega⟩, by simp only [id]; omega⟩
      · simp only [Tr.get_set, Nat.reduceEqDiff, if_false, if_true, t5]
      · simp only [Tr.get_set, Nat.reduceEqDiff, if_false, if_true, t6]
      · simp only [Tr.get_set, Nat.reduceEqDiff, if_false, if_true, t9]
      · simp only [Tr.get_set, Nat.reduceEqDiff, if_false, if_true]
      · simp only [Tr.get_set, Nat.reduceEqDiff, if_false, if_true]
        rw [hs]; congr 2; omega
  · have hn : n = top + 1 := by omega
    simp -implicitDefEqProofs -dsimp (maxSteps := 10000000) only [af6_l0, ↓goes_loop, ↓goes_seq, ↓goes_reg, ↓goes_dreg, ↓goes_cond, ↓goes_block, ↓goes_skip, ↓goes_exit, ↓goes_ret, after_some, br_true, br_false, ↓then_normal, ↓then_exit, ↓then_ret, ↓blk_normal, ↓blk_exit, ↓blk_ret, ↓blk_other, ops_nil, ops_some, ops_none, oper_none, oper_some, gd_tt, gd_ff, gd_tf, gd_ft, gd_undef, ↓any_op, ↓any_call, ↓any_callV, ↓any_invoke, xo_t, xo_c, args_nil, args_cons, bin_add, bin_sub, bin_mul, bin_quo, bin_rem, bin_and, bin_or, bin_xor, bin_andNot, bin_eql, bin_neq, bin_lss, bin_leq, bin_gtr, bin_geq, bin_shl, bin_shr, bin_bools, bin_strs, bin_ptrs, bin_slices, bin_aggs, ↓Option.bind_some, ↓Option.map_some, ↓cond_true, ↓cond_false, evC, evOp, XO.lit, setArgs, Tr.get_set, Option.bind_some, Option.map_some, cond_true, cond_false, maxI, maxFrom, minI, minFrom, aConv, aBinE, aEq, eqScal, aUn, evRes, fin, oneOf, if_true, if_false, callee, reduceCtorEq, Nat.reduceEqDiff, and_self, decide_true, decide_false, beq_true, beq_false, Bool.not_true, Bool.not_false, List.getElem?_cons_zero, List.getElem?_cons_succ, beq_self_eq_true, gt_iff_lt, ble_dec, beq_dec, List.head?_cons, AV.undef, eq_self, ne_eq, not_true_eq_false, not_false_eq_true, Int.reduceLT, Int.reduceLE, Int.reduceToNat, Int.reduceEq, Int.reduceNeg, Nat.reduceAdd, Nat.reduceLT, Nat.reduceLeDiff, Nat.reduceMul, Nat.reduceSub, AV.cells, AV.tup, Bool.true_and, true_and, and_true, List.drop_nil, List.append_nil, rd_put, rd_alloc, rdO, St.get_put, St.get_alloc, St.next_put, St.next_alloc, St.wr, Bool.and_self, Bool.and_true, List.length_cons, List.length_nil, List.take_succ_cons, List.take_zero, List.drop_succ_cons, List.drop_zero, List.cons_append, List.nil_append, Nat.zero_add, Nat.add_zero, Nat.reduceMul, t9, t14, c1]
    refine ⟨a, ⟨rfl, ?_, ?_, ?_, n, ?_, ?_, n0, n1, ha⟩, ?_⟩
    · simp only [Tr.get_set, Nat.reduceEqDiff, if_false, if_true, t5]
    · simp only [Tr.get_set, Nat.reduceEqDiff, if_false, if_true, t6]
    · simp only [Tr.get_set, Nat.reduceEqDiff, if_false, if_true, t9]
    · simp only [Tr.get_set, Nat.reduceEqDiff, if_false, if_true, t14]
    · simp only [Tr.get_set, Nat.reduceEqDiff, if_false, if_true, t13]
    · simp only [Tr.get_set, Nat.reduceEqDiff, if_false, if_true, t14, hn]
set_option maxHeartbeats 4000000 in
theorem ev6 (k : Nat) {n : Int} (wn : (Lit.int .u16 n).wf = true) {S : St} {p : Option (Nat × Nat × Nat)} {len : Nat} (h : Sl S p len [.int .i64]) :
    ∃ S', evF X6 AP (k + 1000) 6 [.int .u16 n, .slice p len 1 none] S = some (.bool true, S') := by
  have hn := wf_u16 wn
  suffices hs : ∃ v S', evF X6 AP (k + 1000) 6 [.int .u16 n, .slice p len 1 none] S = some (v, S') ∧ v = .bool true by
    obtain ⟨v, S', h1, rfl⟩ := hs; exact ⟨S', h1⟩
  have w0 : IntKind.i64.wrap (n % 16384) = n % 16384 := w64_id (by omega) (by omega)
  have w1 : IntKind.i64.wrap (40000 + n % 16384) = 40000 + n % 16384 := w64_id (by omega) (by omega)
  obtain ⟨first, hf⟩ : ∃ f, 40000 + n % 16384 = f := ⟨_, rfl⟩
  rw [hf] at w1
  have hf0 : 40000 ≤ first := by omega
  have hf1 : first < 56384 := by omega
  refine evF_goes (af := af6) (k := k + 999) rfl rfl rfl ?_
  simp -implicitDefEqProofs -dsimp (maxSteps := 10000000) only [af6, ↓goes_loop, ↓goes_seq, ↓goes_reg, ↓goes_dreg, ↓goes_cond, ↓goes_block, ↓goes_skip, ↓goes_exit, ↓goes_ret, after_some, br_true, br_false, ↓then_normal, ↓then_exit, ↓then_ret, ↓blk_normal, ↓blk_exit, ↓blk_ret, ↓blk_other, ops_nil, ops_some, ops_none, oper_none, oper_some, gd_tt, gd_ff, gd_tf, gd_ft, gd_undef, ↓any_op, ↓any_call, ↓any_callV, ↓any_invoke, xo_t, xo_c, args_nil, args_cons, bin_add, bin_sub, bin_mul, bin_quo, bin_rem, bin_and, bin_or, bin_xor, bin_andNot, bin_eql, bin_neq, bin_lss, bin_leq, bin_gtr, bin_geq, bin_shl, bin_shr, bin_bools, bin_strs, bin_ptrs, bin_slices, bin_aggs, ↓Option.bind_some, ↓Option.map_some, ↓cond_true, ↓cond_false, evC, evOp, XO.lit, setArgs, Tr.tabG, Tr.tabS, Tr.tabL, Tr.get_lf, Option.bind_some, Option.map_some, cond_true, cond_false, maxI, maxFrom, minI, minFrom, aConv, aBinE, aEq, eqScal, aUn, evRes, fin, oneOf, if_true, if_false, callee, reduceCtorEq, Nat.reduceEqDiff, and_self, decide_true, decide_false, beq_true, beq_false, Bool.not_true, Bool.not_false, List.getElem?_cons_zero, List.getElem?_cons_succ, beq_self_eq_true, gt_iff_lt, ble_dec, beq_dec, List.head?_cons, AV.undef, eq_self, ne_eq, not_true_eq_false, not_false_eq_true, Int.reduceLT, Int.reduceLE, Int.reduceToNat, Int.reduceEq, Int.reduceNeg, Nat.reduceAdd, Nat.reduceLT, Nat.reduceLeDiff, Nat.reduceMul, Nat.reduceSub, AV.cells, AV.tup, Bool.true_and, true_and, and_true, List.drop_nil, List.append_nil, rd_put, rd_alloc, rdO, St.get_put, St.get_alloc, St.next_put, St.next_alloc, St.wr, Bool.and_self, Bool.and_true, List.length_cons, List.length_nil, List.take_succ_cons, List.take_zero, List.drop_succ_cons, List.drop_zero, List.cons_append, List.nil_append, Nat.zero_add, Nat.add_zero, Nat.reduceMul, T13, pt, mask14, w0, w1, hf, Option.isNone_some]
  refine .while (I6 p len S first) id 100 ?_ (by show 100 < k + 999; omega) fun a2 T2 S2 h2 => (round6 k h hf0 hf1 a2 T2 S2 h2).mono ?_
  · refine ⟨rfl, rfl, rfl, rfl, (Ext.alloc _ _).then_alloc _, s0, [], [], 0, 0, first, rfl, rfl, rfl, ?_, ?_, mp0, kn0, good0, by decide, by decide, rfl, by omega, by omega, fun _ => by decide, fun h => absurd h (by decide), by decide⟩
    · simp only [St.get_alloc, St.next_alloc, Nat.left_eq_add, Nat.succ_ne_self, if_false, if_true, Nat.one_ne_zero]
    · simp only [St.get_alloc, St.next_alloc, if_true]
  · intro r T' S' hr
    cases r with
    | normal => exact hr
    | ret => exact absurd hr.1 (by intro h; cases h)
    | exit id =>
      obtain ⟨hid, a', t1, t5, t6, t7, he, s, K, l, c, i, at_, t8, t9, t10, hs, hmp, mp, kn, g, i0, i1, ha, b0, b1, z0, z1, kl⟩ := hr
      cases hid
      have nn := g.none_
      have e15 := T15 (k + 995) hs
      have e16 := T16 (k + 995) g hs
      by_cases c0 : s.l < 0
      · have e1 : s.l = -1 := (nn c0).1
        rw [e1] at e15 t9
        simp -implicitDefEqProofs -dsimp (maxSteps := 10000000) only [↓goes_loop, ↓goes_seq, ↓goes_reg, ↓goes_dreg, ↓goes_cond, ↓goes_block, ↓goes_skip, ↓goes_exit, ↓goes_ret, after_some, br_true, br_false, ↓then_normal, ↓then_exit, ↓then_ret, ↓blk_normal, ↓blk_exit, ↓blk_ret, ↓blk_other, ops_nil, ops_some, ops_none, oper_none, oper_some, gd_tt, gd_ff, gd_tf, gd_ft, gd_undef, ↓any_op, ↓any_call, ↓any_callV, ↓any_invoke, xo_t, xo_c, args_nil, args_cons, bin_add, bin_sub, bin_mul, bin_quo, bin_rem, bin_and, bin_or, bin_xor, bin_andNot, bin_eql, bin_neq, bin_lss, bin_leq, bin_gtr, bin_geq, bin_shl, bin_shr, bin_bools, bin_strs, bin_ptrs, bin_slices, bin_aggs, ↓Option.bind_some, ↓Option.map_some, ↓cond_true, ↓cond_false, evC, evOp, XO.lit, setArgs, Tr.get_set, Option.bind_some, Option.map_some, cond_true, cond_false, maxI, maxFrom, minI, minFrom, aConv, aBinE, aEq, eqScal, aUn, evRes, fin, oneOf, if_true, if_false, callee, reduceCtorEq, Nat.reduceEqDiff, and_self, decide_true, decide_false, beq_true, beq_false, Bool.not_true, Bool.not_false, List.getElem?_cons_zero, List.getElem?_cons_succ, beq_self_eq_true, gt_iff_lt, ble_dec, beq_dec, List.head?_cons, AV.undef, eq_self, ne_eq, not_true_eq_false, not_false_eq_true, Int.reduceLT, Int.reduceLE, Int.reduceToNat, Int.reduceEq, Int.reduceNeg, Nat.reduceAdd, Nat.reduceLT, Nat.reduceLeDiff, Nat.reduceMul, Nat.reduceSub, AV.cells, AV.tup, Bool.true_and, true_and, and_true, List.drop_nil, List.append_nil, rd_put, rd_alloc, rdO, St.get_put, St.get_alloc, St.next_put, St.next_alloc, St.wr, Bool.and_self, Bool.and_true, List.length_cons, List.length_nil, List.take_succ_cons, List.take_zero, List.drop_succ_cons, List.drop_zero, List.cons_append, List.nil_append, Nat.zero_add, Nat.add_zero, Nat.reduceMul, t5, t6, t7, t8, t9, pt, e15, x6_10]
        exact ⟨_, _, rfl, rfl⟩
      · have q : 0 < i := by
          rcases Int.lt_or_le 0 i with q | q
          · exact q
          · exact absurd (z0 (by omega)) c0
        obtain ⟨f1, f2, f3⟩ := z1 q
        have hcr := g.cr
        have hcn := kn.cnt
        have kl : K.length ≤ 1000 := by omega
        simp -implicitDefEqProofs -dsimp (maxSteps := 10000000) only [↓goes_loop, ↓goes_seq, ↓goes_reg, ↓goes_dreg, ↓goes_cond, ↓goes_block, ↓goes_skip, ↓goes_exit, ↓goes_ret, after_some, br_true, br_false, ↓then_normal, ↓then_exit, ↓then_ret, ↓blk_normal, ↓blk_exit, ↓blk_ret, ↓blk_other, ops_nil, ops_some, ops_none, oper_none, oper_some, gd_tt, gd_ff, gd_tf, gd_ft, gd_undef, ↓any_op, ↓any_call, ↓any_callV, ↓any_invoke, xo_t, xo_c, args_nil, args_cons, bin_add, bin_sub, bin_mul, bin_quo, bin_rem, bin_and, bin_or, bin_xor, bin_andNot, bin_eql, bin_neq, bin_lss, bin_leq, bin_gtr, bin_geq, bin_shl, bin_shr, bin_bools, bin_strs, bin_ptrs, bin_slices, bin_aggs, ↓Option.bind_some, ↓Option.map_some, ↓cond_true, ↓cond_false, evC, evOp, XO.lit, setArgs, Tr.get_set, Option.bind_some, Option.map_some, cond_true, cond_false, maxI, maxFrom, minI, minFrom, aConv, aBinE, aEq, eqScal, aUn, evRes, fin, oneOf, if_true, if_false, callee, reduceCtorEq, Nat.reduceEqDiff, and_self, decide_true, decide_false, beq_true, beq_false, Bool.not_true, Bool.not_false, List.getElem?_cons_zero, List.getElem?_cons_succ, beq_self_eq_true, gt_iff_lt, ble_dec, beq_dec, List.head?_cons, AV.undef, eq_self, ne_eq, not_true_eq_false, not_false_eq_true, Int.reduceLT, Int.reduceLE, Int.reduceToNat, Int.reduceEq, Int.reduceNeg, Nat.reduceAdd, Nat.reduceLT, Nat.reduceLeDiff, Nat.reduceMul, Nat.reduceSub, AV.cells, AV.tup, Bool.true_and, true_and, and_true, List.drop_nil, List.append_nil, rd_put, rd_alloc, rdO, St.get_put, St.get_alloc, St.next_put, St.next_alloc, St.wr, Bool.and_self, Bool.and_true, List.length_cons, List.length_nil, List.take_succ_cons, List.take_zero, List.drop_succ_cons, List.drop_zero, List.cons_append, List.nil_append, Nat.zero_add, Nat.add_zero, Nat.reduceMul, t5, t6, t7, t8, t9, c0]
        refine .while (I7 S.next first s.l K S') _root_.id (s.l + 1 - first).toNat ?_ (by show (s.l + 1 - first).toNat < k + 999; omega) fun a2 T2 S2 h2 => (round60 k hf0 (by omega) hmp mp kn.nodup kl a2 T2 S2 h2).mono ?_
        · refine ⟨rfl, ?_, ?_, ?_, first, ?_, ?_, Int.le_refl _, by omega, by omega⟩
          · simp only [Tr.get_set, Nat.reduceEqDiff, if_false, if_true, t5]
          · simp only [Tr.get_set, Nat.reduceEqDiff, if_false, if_true, t6]
          · simp only [Tr.get_set, Nat.reduceEqDiff, if_false, if_true, t9]
          · simp only [Tr.get_set, Nat.reduceEqDiff, if_false, if_true]
          · simp only [Tr.get_set, Nat.reduceEqDiff, if_false, if_true, cnt_self]
            congr 2; omega
        · intro r T2 S2 hr
          cases r with
          | normal => exact hr
          | ret => exact absurd hr.1 (by intro h; cases h)
          | exit id =>
            obtain ⟨hid, a3, ⟨rfl, u5, u6, u9, m, u14, u13, m0, m1, m2⟩, u14'⟩ := hr
            cases hid
            have em : m = s.l + 1 := by rw [u14] at u14'; cases u14'; rfl
            have el : m - first - cnt K first m = lost s := by
              rw [em]; unfold lost; rw [if_neg c0, hcn, f1]; omega
            rw [el] at u13
            simp -implicitDefEqProofs -dsimp (maxSteps := 10000000) only [↓goes_loop, ↓goes_seq, ↓goes_reg, ↓goes_dreg, ↓goes_cond, ↓goes_block, ↓goes_skip, ↓goes_exit, ↓goes_ret, after_some, br_true, br_false, ↓then_normal, ↓then_exit, ↓then_ret, ↓blk_normal, ↓blk_exit, ↓blk_ret, ↓blk_other, ops_nil, ops_some, ops_none, oper_none, oper_some, gd_tt, gd_ff, gd_tf, gd_ft, gd_undef, ↓any_op, ↓any_call, ↓any_callV, ↓any_invoke, xo_t, xo_c, args_nil, args_cons, bin_add, bin_sub, bin_mul, bin_quo, bin_rem, bin_and, bin_or, bin_xor, bin_andNot, bin_eql, bin_neq, bin_lss, bin_leq, bin_gtr, bin_geq, bin_shl, bin_shr, bin_bools, bin_strs, bin_ptrs, bin_slices, bin_aggs, ↓Option.bind_some, ↓Option.map_some, ↓cond_true, ↓cond_false, evC, evOp, XO.lit, setArgs, Tr.get_set, Option.bind_some, Option.map_some, cond_true, cond_false, maxI, maxFrom, minI, minFrom, aConv, aBinE, aEq, eqScal, aUn, evRes, fin, oneOf, if_true, if_false, callee, reduceCtorEq, Nat.reduceEqDiff, and_self, decide_true, decide_false, beq_true, beq_false, Bool.not_true, Bool.not_false, List.getElem?_cons_zero, List.getElem?_cons_succ, beq_self_eq_true, gt_iff_lt, ble_dec, beq_dec, List.head?_cons, AV.undef, eq_self, ne_eq, not_true_eq_false, not_false_eq_true, Int.reduceLT, Int.reduceLE, Int.reduceToNat, Int.reduceEq, Int.reduceNeg, Nat.reduceAdd, Nat.reduceLT, Nat.reduceLeDiff, Nat.reduceMul, Nat.reduceSub, AV.cells, AV.tup, Bool.true_and, true_and, and_true, List.drop_nil, List.append_nil, rd_put, rd_alloc, rdO, St.get_put, St.get_alloc, St.next_put, St.next_alloc, St.wr, Bool.and_self, Bool.and_true, List.length_cons, List.length_nil, List.take_succ_cons, List.take_zero, List.drop_succ_cons, List.drop_zero, List.cons_append, List.nil_append, Nat.zero_add, Nat.add_zero, Nat.reduceMul, u5, u6, u9, u13, pt, e15, e16, x6_10]
            exact ⟨_, _, rfl, rfl⟩
theorem law6 {n : Int} (wn : (Lit.int .u16 n).wf = true) {p : Option (Nat × Nat × Nat)} {len : Nat} {xs : List AV} (h : Arg p 0 len [.int .i64] xs) :
    ∃ S', evF X6 AP (0 + 1000) 6 [.int .u16 n, .slice p len 1 none] (S0.alloc (.cells xs 0 0 false)) = some (.bool true, S') :=
  ev6 0 wn (.of_arg h rfl (by show 0 < 1; decide))
end Go.Proofs.YtanloaedpalblaaA
