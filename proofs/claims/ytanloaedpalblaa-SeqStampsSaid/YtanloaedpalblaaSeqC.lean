/- Chapter 15: stamps that go on by little steps. -/
import Derived.Test.YtanloaedpalblaaSeqB
import Derived.Test.YtanloaedpalblaaAeS5
set_option linter.unusedVariables false
set_option linter.unusedSimpArgs false
set_option maxRecDepth 10000
namespace Go.Proofs.YtanloaedpalblaaA
open Go.RowKit
attribute [local congr] bind_congr1 map_congr1 cond_congr1 withX_congr after_congr br_congr

theorem ext32s {x y : Int} (h0 : 0 ≤ x) (h1 : x < 1125899906842624) (h2 : x ≤ y) (h4 : y - x ≤ 2147483647) : ext 4294967296 x (y % 4294967296) = y := by
  unfold ext
  rw [if_neg (by omega)]
  dsimp only
  split <;> split <;> omega
theorem m31 (x : Int) : Go.bits .and .u32 x 2147483647 = x % 2147483648 := and_u32 31 (by decide) x
def I7 (p : Option (Nat × Nat × Nat)) (len : Nat) (S0 : St) (a : Nat) (T : Tm) (S : St) : Prop :=
  S = S0 ∧ T.get 1 = some (.slice p len 1 none) ∧ ∃ x i : Int, T.get 5 = some (.int .i64 x) ∧ T.get 6 = some (.int .i64 x) ∧ T.get 7 = some (.int .i64 i) ∧ 0 ≤ i ∧ i ≤ 60 ∧ (a : Int) = 60 - i ∧ 0 ≤ x ∧ x ≤ 4294967296 + 2147483648 * i
theorem ev7 {f : Int} (wf : (Lit.int .u32 f).wf = true) {S : St} {p : Option (Nat × Nat × Nat)} {len : Nat} (h : Sl S p len [.int .u32]) :
    ∃ S', evF X3 AP 101 7 [.int .u32 f, .slice p len 1 none] S = some (.bool true, S') := by
  have hf := wf_u32 wf
  have w0 : IntKind.i64.wrap f = f := w64_id (by omega) (by omega)
  have hm := h.max
  suffices hs : ∃ v S', evF X3 AP 101 7 [.int .u32 f, .slice p len 1 none] S = some (v, S') ∧ v = .bool true by
    obtain ⟨v, S', h1, rfl⟩ := hs; exact ⟨S', h1⟩
  refine evF_goes (af := af7) (k := 100) rfl rfl rfl ?_
  simp -implicitDefEqProofs -dsimp (maxSteps := 10000000) only [af7, ↓goes_loop, ↓goes_seq, ↓goes_reg, ↓goes_dreg, ↓goes_cond, ↓goes_block, ↓goes_skip, ↓goes_exit, ↓goes_ret, after_some, br_true, br_false, ↓then_normal, ↓then_exit, ↓then_ret, ↓blk_normal, ↓blk_exit, ↓blk_ret, ↓blk_other, evC, evOps, evOper, wanted, evAny, AOp.calls, evOp, XO.ev, XO.lit, setArgs, putD, Tr.get_set, Option.bind_some, Option.map_some, cond_true, cond_false, evArgs, maxI, maxFrom, minI, minFrom, aConv, aBin, aBinE, aEq, eqScal, aUn, aInt, evRes, fin, oneOf, if_true, if_false, callee, evF_eq, withX_some, withX_none, addX, X0, sN0, sN1, sN2, sN3, sN4, reduceCtorEq, Nat.reduceEqDiff, and_self, decide_true, decide_false, beq_true, beq_false, Bool.not_true, Bool.not_false, List.getElem?_cons_zero, List.getElem?_cons_succ, beq_self_eq_true, gt_iff_lt, ble_dec, beq_dec, List.head?_cons, AV.undef, eq_self, ne_eq, not_true_eq_false, not_false_eq_true, Int.reduceLT, Int.reduceLE, Int.reduceToNat, Int.reduceEq, Int.reduceNeg, Nat.reduceAdd, Nat.reduceLT, Nat.reduceLeDiff, Nat.reduceMul, Nat.reduceSub, w0]
  refine .while (I7 p len S) id 60 ?_ (by decide) ?_
  · simp only [I7, Tr.get_set, Nat.reduceEqDiff, if_false, if_true, true_and]
    exact ⟨f, 0, rfl, rfl, rfl, by omega, by omega, by omega, by omega, by omega⟩
  · rintro a T S1 ⟨rfl, g1, x, i, g5, g6, g7, i0, i1, ha, x0, x1⟩
    by_cases c : i < len ∧ i < 60
    · obtain ⟨c1, c2⟩ := c
      obtain ⟨o, v, j, rfl, _⟩ := h.at_ (by omega)
      obtain ⟨z, hz, wz⟩ := h.int i0 c1
      have hz2 := wf_u32 wz
      have hix : ixOf (.int .i64 i) len = some i.toNat := ix_ok i0 c1
      have w1 : IntKind.i64.wrap (z % 2147483648) = z % 2147483648 := w64_id (by omega) (by omega)
      have w2 : IntKind.i64.wrap (x + z % 2147483648) = x + z % 2147483648 := w64_id (by omega) (by omega)
      have w3 : IntKind.i64.wrap (i + 1) = i + 1 := w64_id (by omega) (by omega)
      have e1 := ext32s (y := x + z % 2147483648) x0 (by omega) (by omega) (by omega)
      simp -implicitDefEqProofs -dsimp (maxSteps := 10000000) only [af7_l0, ↓goes_loop, ↓goes_seq, ↓goes_reg, ↓goes_dreg, ↓goes_cond, ↓goes_block, ↓goes_skip, ↓goes_exit, ↓goes_ret, after_some, br_true, br_false, ↓then_normal, ↓then_exit, ↓then_ret, ↓blk_normal, ↓blk_exit, ↓blk_ret, ↓blk_other, evC, evOps, evOper, wanted, evAny, AOp.calls, evOp, XO.ev, XO.lit, setArgs, putD, Tr.get_set, Option.bind_some, Option.map_some, cond_true, cond_false, evArgs, maxI, maxFrom, minI, minFrom, aConv, aBin, aBinE, aEq, eqScal, aUn, aInt, evRes, fin, oneOf, if_true, if_false, callee, evF_eq, withX_some, withX_none, addX, X0, sN0, sN1, sN2, sN3, sN4, reduceCtorEq, Nat.reduceEqDiff, and_self, decide_true, decide_false, beq_true, beq_false, Bool.not_true, Bool.not_false, List.getElem?_cons_zero, List.getElem?_cons_succ, beq_self_eq_true, gt_iff_lt, ble_dec, beq_dec, List.head?_cons, AV.undef, eq_self, ne_eq, not_true_eq_false, not_false_eq_true, Int.reduceLT, Int.reduceLE, Int.reduceToNat, Int.reduceEq, Int.reduceNeg, Nat.reduceAdd, Nat.reduceLT, Nat.reduceLeDiff, Nat.reduceMul, Nat.reduceSub, AV.cells, AV.tup, Bool.true_and, true_and, and_true, List.drop_nil, List.append_nil, rd_put, rd_alloc, rdO, St.get_put, St.get_alloc, St.next_put, St.next_alloc, St.wr, Bool.and_self, Bool.and_true, List.length_cons, List.length_nil, List.take_succ_cons, List.take_zero, List.drop_succ_cons, List.drop_zero, List.cons_append, List.nil_append, Nat.zero_add, Nat.add_zero, Nat.reduceMul, g1, g5, g6, g7, c1, c2, hm, hix, hz, m31, w1, w2, w3, IntKind.wrap_u32, X3, X2, X1, e1]
      refine ⟨a - 1, ⟨rfl, ?_⟩, by simp only [id]; omega⟩
      simp only [Tr.get_set, Nat.reduceEqDiff, if_false, if_true, g1, true_and]
      exact ⟨_, _, rfl, rfl, rfl, by omega, by omega, by omega, by omega, by omega⟩
    · by_cases c1 : i < len
      · have c2 : ¬ i < 60 := by omega
        simp -implicitDefEqProofs -dsimp (maxSteps := 10000000) only [af7_l0, ↓goes_loop, ↓goes_seq, ↓goes_reg, ↓goes_dreg, ↓goes_cond, ↓goes_block, ↓goes_skip, ↓goes_exit, ↓goes_ret, after_some, br_true, br_false, ↓then_normal, ↓then_exit, ↓then_ret, ↓blk_normal, ↓blk_exit, ↓blk_ret, ↓blk_other, evC, evOps, evOper, wanted, evAny, AOp.calls, evOp, XO.ev, XO.lit, setArgs, putD, Tr.get_set, Option.bind_some, Option.map_some, cond_true, cond_false, evArgs, maxI, maxFrom, minI, minFrom, aConv, aBin, aBinE, aEq, eqScal, aUn, aInt, evRes, fin, oneOf, if_true, if_false, callee, evF_eq, withX_some, withX_none, addX, X0, sN0, sN1, sN2, sN3, sN4, reduceCtorEq, Nat.reduceEqDiff, and_self, decide_true, decide_false, beq_true, beq_false, Bool.not_true, Bool.not_false, List.getElem?_cons_zero, List.getElem?_cons_succ, beq_self_eq_true, gt_iff_lt, ble_dec, beq_dec, List.head?_cons, AV.undef, eq_self, ne_eq, not_true_eq_false, not_false_eq_true, Int.reduceLT, Int.reduceLE, Int.reduceToNat, Int.reduceEq, Int.reduceNeg, Nat.reduceAdd, Nat.reduceLT, Nat.reduceLeDiff, Nat.reduceMul, Nat.reduceSub, AV.cells, AV.tup, Bool.true_and, true_and, and_true, List.drop_nil, List.append_nil, rd_put, rd_alloc, rdO, St.get_put, St.get_alloc, St.next_put, St.next_alloc, St.wr, Bool.and_self, Bool.and_true, List.length_cons, List.length_nil, List.take_succ_cons, List.take_zero, List.drop_succ_cons, List.drop_zero, List.cons_append, List.nil_append, Nat.zero_add, Nat.add_zero, Nat.reduceMul, g1, g5, g6, g7, c1, c2, hm, X3, X2, X1]
        exact ⟨_, _, rfl, rfl⟩
      · simp -implicitDefEqProofs -dsimp (maxSteps := 10000000) only [af7_l0, ↓goes_loop, ↓goes_seq, ↓goes_reg, ↓goes_dreg, ↓goes_cond, ↓goes_block, ↓goes_skip, ↓goes_exit, ↓goes_ret, after_some, br_true, br_false, ↓then_normal, ↓then_exit, ↓then_ret, ↓blk_normal, ↓blk_exit, ↓blk_ret, ↓blk_other, evC, evOps, evOper, wanted, evAny, AOp.calls, evOp, XO.ev, XO.lit, setArgs, putD, Tr.get_set, Option.bind_some, Option.map_some, cond_true, cond_false, evArgs, maxI, maxFrom, minI, minFrom, aConv, aBin, aBinE, aEq, eqScal, aUn, aInt, evRes, fin, oneOf, if_true, if_false, callee, evF_eq, withX_some, withX_none, addX, X0, sN0, sN1, sN2, sN3, sN4, reduceCtorEq, Nat.reduceEqDiff, and_self, decide_true, decide_false, beq_true, beq_false, Bool.not_true, Bool.not_false, List.getElem?_cons_zero, List.getElem?_cons_succ, beq_self_eq_true, gt_iff_lt, ble_dec, beq_dec, List.head?_cons, AV.undef, eq_self, ne_eq, not_true_eq_false, not_false_eq_true, Int.reduceLT, Int.reduceLE, Int.reduceToNat, Int.reduceEq, Int.reduceNeg, Nat.reduceAdd, Nat.reduceLT, Nat.reduceLeDiff, Nat.reduceMul, Nat.reduceSub, AV.cells, AV.tup, Bool.true_and, true_and, and_true, List.drop_nil, List.append_nil, rd_put, rd_alloc, rdO, St.get_put, St.get_alloc, St.next_put, St.next_alloc, St.wr, Bool.and_self, Bool.and_true, List.length_cons, List.length_nil, List.take_succ_cons, List.take_zero, List.drop_succ_cons, List.drop_zero, List.cons_append, List.nil_append, Nat.zero_add, Nat.add_zero, Nat.reduceMul, g1, g5, g6, g7, c1, hm, X3, X2, X1]
        exact ⟨_, _, rfl, rfl⟩
theorem law7 {f : Int} (wf : (Lit.int .u32 f).wf = true) {p : Option (Nat × Nat × Nat)} {len : Nat} {xs : List AV} (h : Arg p 0 len [.int .u32] xs) :
    ∃ S', evF X3 AP 101 7 [.int .u32 f, .slice p len 1 none] (S0.alloc (.cells xs 0 0 false)) = some (.bool true, S') :=
  ev7 wf (.of_arg h rfl (Nat.lt_succ_self _))
end Go.Proofs.YtanloaedpalblaaA
